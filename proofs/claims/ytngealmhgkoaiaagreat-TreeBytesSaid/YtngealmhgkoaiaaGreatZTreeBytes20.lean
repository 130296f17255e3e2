/- Plain: which late leaves a parent of a tree may have. -/
import Derived.Test.YtngealmhgkoaiaaGreatZTreeBytes17
import Derived.Test.YtngealmhgkoaiaaGreatZTreeBytes18
import Derived.Test.YtngealmhgkoaiaaGreatZTreeBytes16
import Derived.Test.YtngealmhgkoaiaaGreatZTreeBytes07
import Derived.Test.YtngealmhgkoaiaaGreatZTreeBytes19
namespace Go.Proofs.YtngealmhgkoaiaaGreat
open Go.RowKit WalkM
set_option linter.unusedVariables false
/-- a late leaf of a node is late in all parents between -/
def LateP (t : List NodeD) (x : Nat) (u : Int) : Prop :=
  u < (leavesN t.length : Int) ∧ undZ (2 * u) (x : Int) = true ∧ (nd t (2 * u).toNat).kind ≠ 0 ∧ ∀ y, y < t.length → (nd t y).kind = 2 → undZ (2 * u) (y : Int) = true → undZ (y : Int) (x : Int) = true → u ∈ (nd t y).par.late
def lateUB (t : List NodeD) (x : Nat) (u : Int) : Bool :=
  decide (u < (leavesN t.length : Int)) && (undZ (2 * u) (x : Int) && (decide ((nd t (2 * u).toNat).kind ≠ 0) && (List.range t.length).all fun y => !(decide ((nd t y).kind = 2) && (undZ (2 * u) (y : Int) && undZ (y : Int) (x : Int))) || decide (u ∈ (nd t y).par.late)))
theorem lateUB_iff (t : List NodeD) (x : Nat) (u : Int) : lateUB t x u = true ↔ LateP t x u := by
  unfold lateUB LateP
  simp only [Bool.and_eq_true, decide_eq_true_iff, List.all_eq_true, List.mem_range, Bool.or_eq_true, Bool.not_eq_true', Bool.and_eq_false_imp]
  constructor
  · rintro ⟨h1, h2, h3, h4⟩
    refine ⟨h1, h2, h3, fun y hy k1 k2 k3 => ?_⟩
    rcases h4 y hy with h | h
    · have := h k1 k2; rw [k3] at this; cases this
    · exact h
  · rintro ⟨h1, h2, h3, h4⟩
    refine ⟨h1, h2, h3, fun y hy => ?_⟩
    by_cases hm : u ∈ (nd t y).par.late
    · exact .inr hm
    · refine .inl fun k1 k2 => ?_
      cases k3 : undZ (y : Int) (x : Int) with
      | false => rfl
      | true => exact absurd (h4 y hy k1 k2 k3) hm
def lateTB (t : List NodeD) (x : Nat) : Bool := (nd t x).par.late.all (lateUB t x)
theorem lateTB_yes {t : List NodeD} {x : Nat} (h : ∀ u ∈ (nd t x).par.late, LateP t x u) : lateTB t x = true := List.all_eq_true.2 fun u hu => (lateUB_iff t x u).2 (h u hu)
theorem lateTB_out {t : List NodeD} {x : Nat} (h : lateTB t x = true) : ∀ u ∈ (nd t x).par.late, LateP t x u := fun u hu => (lateUB_iff t x u).1 (List.all_eq_true.1 h u hu)
theorem lateTB_no {t : List NodeD} {x : Nat} {u : Int} (hu : u ∈ (nd t x).par.late) (h : ¬ LateP t x u) : lateTB t x = false := by
  cases hb : lateTB t x with
  | false => rfl
  | true => exact absurd (lateTB_out hb u hu) h
theorem right_kind {d : NodeD} (h : rightB d = true) : d.kind = 0 ∨ d.kind = 1 ∨ d.kind = 2 := by
  unfold rightB at h
  by_cases h0 : d.kind = 0
  · exact .inl h0
  · by_cases h1 : d.kind = 1
    · exact .inr (.inl h1)
    · by_cases h2 : d.kind = 2
      · exact .inr (.inr h2)
      · simp only [h0, h1, h2, if_false] at h; cases h
theorem right_nolate {d : NodeD} (h : rightB d = true) (hk : d.kind ≠ 2) : d.par.late = [] := by
  unfold rightB at h
  have key : npB d.par.box.length d.par.hash.length d.par.late.length = true → d.par.late = [] := by
    intro h
    have := of_decide_eq_true h
    exact List.eq_nil_of_length_eq_zero (by omega)
  rcases right_kind (d := d) (by unfold rightB; exact h) with h0 | h1 | h2
  · simp only [h0, if_true, Bool.and_eq_true] at h
    exact key h.2
  · simp only [h1, if_true, Nat.one_ne_zero, if_false, Bool.and_eq_true] at h
    exact key h.2
  · exact absurd h2 hk
theorem right_late {d : NodeD} (h : rightB d = true) : lateB d.par.late = true := by
  by_cases hk : d.kind = 2
  · have h' : (nlB d.leaf.box.length d.leaf.sign.length d.leaf.ident.length d.leaf.source d.leaf.par.length d.leaf.sig.length && rpB d.par.box.length d.par.hash.length d.par.late) = true := by
      have h2 := h
      unfold rightB at h2
      rw [hk] at h2
      exact h2
    rw [Bool.and_eq_true] at h'
    have h2 := h'.2
    unfold rpB at h2
    rw [Bool.and_eq_true] at h2
    exact h2.1
  · rw [right_nolate h hk]; rfl
theorem lateB_sort {L : List Int} (h : lateB L = true) : SortI L := by
  have hp := (lateB_iff L).1 h
  intro i j hij hj
  induction j with
  | zero => omega
  | succ j ih =>
    have h1 := (hp (j + 1) hj).1
    unfold prevZ at h1
    rw [if_neg (by omega), Nat.add_sub_cancel] at h1
    by_cases e : i = j
    · rw [e]; exact h1
    · have := ih (by omega) (by omega); omega
theorem lev_even {q : Nat} (h : q % 2 = 0) (hq : q ≤ 131070) : lev q = 0 := lev_eq hq (by unfold IsLev; simp; omega)
theorem lev_pos {q : Nat} (h : q % 2 = 1) (hq : q ≤ 131070) : 1 ≤ lev q := by
  rcases Nat.eq_zero_or_pos (lev q) with h0 | h0
  · have := lev_is hq
    rw [h0] at this
    unfold IsLev at this
    simp at this; omega
  · exact h0
theorem anc_odd (x : Nat) {j : Nat} (h : 1 ≤ j) : anc x j % 2 = 1 := by
  have h1 : 2 ^ (j + 1) % 2 = 0 := by rw [Nat.pow_succ]; omega
  have h2 : 2 ^ j % 2 = 0 := by
    obtain ⟨k, rfl⟩ : ∃ k, j = k + 1 := ⟨j - 1, by omega⟩
    rw [Nat.pow_succ]; omega
  have h3 := pow_pos' j
  unfold anc
  rw [Nat.add_mod, Nat.mul_mod, h1, Nat.mul_zero, Nat.zero_mod, Nat.zero_add, Nat.mod_mod]
  omega
/-- a leaf's place under a node: the node is on the leaf's way up -/
theorem und_leaf {q x d : Nat} (hd : d ≤ 16) (hq : q + 1 < 2 ^ (d + 1)) (hx : x + 1 < 2 ^ (d + 1)) (he : q % 2 = 0) : undZ (q : Int) (x : Int) = decide (x = anc q (lev x)) := by
  have h17 := two_pow_le (show d + 1 ≤ 17 by omega)
  have hx2 : x ≤ 131070 := by omega
  have hl := (lev_root hx (lev_is hx2)).1
  have e := und_anc hd hx hq hl
  rw [anc_self (lev_is hx2)] at e
  rw [e, lev_even he (by omega)]
  congr 1
  simp
end Go.Proofs.YtngealmhgkoaiaaGreat
/- Plain: the nodes between a leaf and a parent of it. -/
namespace Go.Proofs.YtngealmhgkoaiaaGreat
open Go.RowKit WalkM
set_option linter.unusedVariables false
theorem placed_at {t : List NodeD} (hp : placedB t = true) {x : Nat} (hx : x < t.length) : (nd t x).kind ≠ otherK x ∧ rightB (nd t x) = true := (placedB_iff t).1 hp x hx
theorem placed_two {t : List NodeD} (hp : placedB t = true) {x : Nat} (hx : x < t.length) (hk : (nd t x).kind = 2) : x % 2 = 1 := by
  rcases Nat.mod_two_eq_zero_or_one x with h | h
  · have := (placed_at hp hx).1
    rw [otherK_even h] at this
    exact absurd hk this
  · exact h
theorem placed_odd {t : List NodeD} (hp : placedB t = true) {x : Nat} (hx : x < t.length) (ho : x % 2 = 1) (hk : (nd t x).kind ≠ 0) : (nd t x).kind = 2 := by
  obtain ⟨h1, h2⟩ := placed_at hp hx
  rw [otherK_odd ho] at h1
  rcases right_kind h2 with h | h | h
  · exact absurd h hk
  · exact absurd h h1
  · exact h
theorem placed_late {t : List NodeD} (hp : placedB t = true) {x : Nat} (hx : x < t.length) {u : Int} (hu : u ∈ (nd t x).par.late) : (nd t x).kind = 2 ∧ ∃ m : Nat, u = (m : Int) ∧ m < 65536 := by
  obtain ⟨_, h2⟩ := placed_at hp hx
  refine ⟨?_, ?_⟩
  · by_cases hk : (nd t x).kind = 2
    · exact hk
    · rw [right_nolate h2 hk] at hu; cases hu
  · obtain ⟨h0, h1⟩ := late_bd (right_late h2) u hu
    exact ⟨u.toNat, by omega, by omega⟩
theorem way_iff {t : List NodeD} {d m x : Nat} (hd : d ≤ 16) (hl : t.length + 1 = 2 * 2 ^ d) (hp : placedB t = true) (hx : x < t.length) (hm : 2 * m < t.length) (hu : (m : Int) ∈ (nd t x).par.late) (hund : undZ ((2 * m : Nat) : Int) (x : Int) = true) :
    (∀ i, 1 ≤ i → i < lev x → (nd t (anc (2 * m) i)).kind ≠ 0 → (m : Int) ∈ (nd t (anc (2 * m) i)).par.late) ↔ (∀ y, y < t.length → (nd t y).kind = 2 → undZ ((2 * m : Nat) : Int) (y : Int) = true → undZ (y : Int) (x : Int) = true → (m : Int) ∈ (nd t y).par.late) := by
  have h17 := two_pow_le (show d + 1 ≤ 17 by omega)
  have e2 : 2 ^ (d + 1) = 2 * 2 ^ d := by rw [Nat.pow_succ]; omega
  have hx1 : x + 1 < 2 ^ (d + 1) := by omega
  have hm1 : 2 * m + 1 < 2 ^ (d + 1) := by omega
  have hx2 : x ≤ 131070 := by omega
  have hlx := (lev_root hx1 (lev_is hx2)).1
  rw [und_leaf hd hm1 hx1 (by omega), decide_eq_true_iff] at hund
  constructor
  · intro h y hy hk k1 k2
    have hy1 : y + 1 < 2 ^ (d + 1) := by omega
    have hy2 : y ≤ 131070 := by omega
    have hyo := placed_two hp hy hk
    have hly := lev_pos hyo hy2
    rw [und_leaf hd hm1 hy1 (by omega), decide_eq_true_iff] at k1
    have e := und_anc (x := 2 * m) hd hm1 hy1 hlx
    rw [← hund] at e
    rw [e, decide_eq_true_iff] at k2
    obtain ⟨q1, q2⟩ := k2
    by_cases hle : lev y = lev x
    · rw [← hle, anc_self (lev_is hy2)] at q2
      rw [← q2]
      exact hu
    · have := h (lev y) hly (by omega) (by rw [← k1, hk]; omega)
      rw [← k1] at this
      exact this
  · intro h i hi1 hi2 hk
    have hy1 := anc_le (show 2 * m < 2 ^ (d + 1) by omega) (show i ≤ d by omega)
    have hy2 : anc (2 * m) i ≤ 131070 := by omega
    have hyl : anc (2 * m) i < t.length := by omega
    have hlev : lev (anc (2 * m) i) = i := lev_eq hy2 (anc_lev _ _)
    refine h _ hyl (placed_odd hp hyl (anc_odd _ hi1) hk) ?_ ?_
    · rw [und_leaf hd hm1 hy1 (by omega), decide_eq_true_iff, hlev]
    · have e := und_anc (x := 2 * m) hd hm1 hy1 hlx
      rw [← hund] at e
      rw [e, decide_eq_true_iff, hlev]
      refine ⟨by omega, ?_⟩
      rw [anc_anc (by omega), ← hund]
theorem lateP_nat {t : List NodeD} {d m x : Nat} (hd : d ≤ 16) (hl : t.length + 1 = 2 * 2 ^ d) : LateP t x (m : Int) ↔ m < 2 ^ d ∧ undZ ((2 * m : Nat) : Int) (x : Int) = true ∧ (nd t (2 * m)).kind ≠ 0 ∧ ∀ y, y < t.length → (nd t y).kind = 2 → undZ ((2 * m : Nat) : Int) (y : Int) = true → undZ (y : Int) (x : Int) = true → (m : Int) ∈ (nd t y).par.late := by
  unfold LateP
  rw [leavesN_pow hd hl, show (2 : Int) * (m : Int) = ((2 * m : Nat) : Int) by omega, Int.toNat_natCast, Int.ofNat_lt]
end Go.Proofs.YtngealmhgkoaiaaGreat
/- Walks: tree.late. -/
namespace Go.Proofs.YtngealmhgkoaiaaGreat
open Go.RowKit WalkM
set_option linter.unusedVariables false
theorem ups_at (x : Nat) : ∀ k j i, i < k → (ups x j k)[i]? = some (anc x (j + i + 1)) := by
  intro k
  induction k with
  | zero => intro j i h; omega
  | succ k ih =>
    intro j i h
    rw [ups]
    cases i with
    | zero => simp
    | succ i => rw [List.getElem?_cons_succ, ih (j + 1) i (by omega)]; congr 2; omega
theorem TreeR.at {w : World} {a : Option Addr} {n c : Nat} {t : List NodeD} (h : TreeR w (.slice a n c) t) {i : Nat} (hi : i < n) : ∃ b off l e, a = some ⟨b, off, none⟩ ∧ b < w.heap.size ∧ w.cell? ⟨b, off + i * 10, none⟩ = some (.int .u8 ((nd t i).kind : Nat)) ∧ w.cell? ⟨b, off + i * 10 + 9, none⟩ = some (.slice l (nd t i).par.late.length e) ∧ Rd w (.slice l (nd t i).par.late.length e) (ivs .i64 (nd t i).par.late) := by
  obtain ⟨b, off, cs, e1, e2, hn, hr⟩ := h.node hi
  obtain ⟨l, e, e3, e4⟩ := hn.late
  exact ⟨b, off, l, e, e1, e2, hr 0 _ hn.kind, hr 9 _ e3, e4⟩
set_option maxRecDepth 100000 in
set_option maxHeartbeats 4000000 in
theorem late_med (v : Value) (t : List NodeD) (x d : Nat) (w : World) (h : TreeR w v t) (hs : medT t = true) (hp : placedB t = true) (hd : d ≤ 16) (hl : t.length + 1 = 2 * 2 ^ d) (hx : x < t.length) :
    Calls Tryz.prog 132 #[v, .int .i64 (x : Nat)] w fun e w' => e = .returned (.bool (lateTB t x)) ∧ Below w.heap.size w w' := by
  obtain ⟨a, c, rfl, hc, hc2⟩ := h.sl
  have hlen := medT_len hs
  have h17 := two_pow_le (show d + 1 ≤ 17 by omega)
  have e2d : 2 ^ (d + 1) = 2 * 2 ^ d := by rw [Nat.pow_succ]; omega
  obtain ⟨L, hL⟩ : ∃ L, L = (nd t x).par.late := ⟨_, rfl⟩
  have LV := fun (W : World) => tleaves_any a t.length c W (by omega)
  rw [leavesN_pow hd hl] at LV
  have GA := fun (W : World) (hw : Below w.heap.size w W) (i : Nat) (hi : i < t.length) => (h.below hw (Nat.le_refl _)).at hi
  have UN := fun (q : Nat) (W : World) => under_any (q : Int) (x : Int) W
  have PA := fun (q : Nat) (hq : q + 1 < 2 ^ (d + 1)) (he : q % 2 = 0) (W : World) => (show Calls Tryz.prog 124 #[.int .i64 (q : Nat), .int .i64 ((2 ^ d : Nat) : Int)] W fun e w' => ∃ v, e = .returned v ∧ Own w' W.heap.size 3 v (nvs (ups q 0 d)) ∧ Below W.heap.size W w' from by
    have := path_any q d hd hq W
    rw [lev_even he (by omega)] at this
    exact this)
  have BS := fun (i : Nat) (hi : i < t.length) (u : Int) (lv : Value) (W : World) (hr : Rd W lv (ivs .i64 (nd t i).par.late)) => bsearch_any lv (nd t i).par.late u W hr (lateB_sort (right_late (placed_at hp hi).2)) (by
    have := of_decide_eq_true (medT_nd hs i)
    omega)
  have YES := fun (hh : ∀ r, r < L.length → LateP t x (L.getD r 0)) => lateTB_yes (t := t) (x := x) (fun u hu => by
    rw [← hL] at hu
    obtain ⟨r, hr, rfl⟩ := List.getElem_of_mem hu
    have := hh r hr
    rwa [List.getD_eq_getElem?_getD, List.getElem?_eq_getElem hr] at this)
  have MEM := fun (r : Nat) (hr : r < L.length) => (show L.getD r 0 ∈ (nd t x).par.late by rw [List.getD_eq_getElem?_getD, List.getElem?_eq_getElem hr, ← hL]; exact List.getElem_mem hr)
  have NO := fun (r : Nat) (hr : r < L.length) (hh : ¬ LateP t x (L.getD r 0)) => lateTB_no (MEM r hr) hh
  have NAT := fun (r : Nat) (hr : r < L.length) => placed_late hp hx (MEM r hr)
  have LP := fun (m : Nat) => lateP_nat (m := m) (x := x) hd hl
  have WAY := fun (m : Nat) (hm : 2 * m < t.length) (hu : (m : Int) ∈ (nd t x).par.late) (hund : undZ ((2 * m : Nat) : Int) (x : Int) = true) => way_iff hd hl hp hx hm hu hund
  have UL := fun (q : Nat) (hq : q + 1 < 2 ^ (d + 1)) (he : q % 2 = 0) => und_leaf hd hq (show x + 1 < 2 ^ (d + 1) by omega) he
  have LX := (lev_root (show x + 1 < 2 ^ (d + 1) by omega) (lev_is (x := x) (by omega))).1
  have LXP := fun (hk : (nd t x).kind = 2) => lev_pos (placed_two hp hx hk) (by omega)
  have ANC := fun (q j : Nat) (hq : q < 2 ^ (d + 1)) (hj : j ≤ d) => anc_le hq hj
  obtain ⟨N, hN⟩ : ∃ N, N = 2 ^ d := ⟨_, rfl⟩
  rw [← hN] at LV PA LP hl e2d
  obtain ⟨n, hn⟩ : ∃ n, n = t.length := ⟨_, rfl⟩
  rw [← hn] at LV GA BS WAY hl hx hc hlen ⊢
  rw [← hn] at LP
  rw [e2d] at PA UL ANC
  have hk60 : L.length ≤ 60 := by have := of_decide_eq_true (medT_nd hs x); rw [hL]; omega
  obtain ⟨k0, hk0⟩ : ∃ k, k = L.length := ⟨_, rfl⟩
  rw [← hk0] at hk60
  rw [← hk0] at YES MEM NO NAT
  have GX := fun (W : World) (hw : Below w.heap.size w W) => GA W hw x hx
  rw [← hL, ← hk0] at GX
  obtain ⟨R, hR⟩ : ∃ R, R = lateTB t x := ⟨_, rfl⟩
  rw [← hR] at YES NO ⊢
  have HLV := Lib.hid LV
  have HGA := Lib.hid GA
  have HGX := Lib.hid GX
  have HUN := Lib.hid UN
  have HPA := Lib.hid PA
  have HBS := Lib.hid BS
  have HYES := Lib.hid YES
  have HMEM := Lib.hid MEM
  have HNO := Lib.hid NO
  have HNAT := Lib.hid NAT
  have HLP := Lib.hid LP
  have HWAY := Lib.hid WAY
  have HUL := Lib.hid UL
  have HLX := Lib.hid LX
  have HLXP := Lib.hid LXP
  have HANC := Lib.hid ANC
  have HD := Lib.hid hd
  have HLL := Lib.hid hL
  have HLN := Lib.hid hl
  have HK0 := Lib.hid hk0
  have hNn : 2 * N = n + 1 := by omega
  clear LV GA GX UN PA BS YES MEM NO NAT LP WAY UL LX LXP ANC hL hl hn hR h hs hp hd h17 e2d hN hk0
  obtain ⟨b, off, l, e, rfl, hbl, ck, cl, hrl⟩ := HGX.out w (Below.refl _ _)
  have AT := fun (r : Nat) (hr : r < k0) => hrl.at3 (u := .int .i64 (L.getD r 0)) (r := r) (by have := HK0.out; simp [ivs, List.getD_eq_getElem?_getD, show r < L.length by omega])
  have HAT := Lib.hid AT
  clear AT hrl
  go_enter Tryz.func132, Tryz.ntmps132
  go_wp2_with fail
  refine (HLV.out w).mono ?_
  rintro e' w' ⟨rfl, rfl⟩
  go_wp2_with fail
  go_loopg [21] k0 (fun q iv wr => ∃ r : Nat, r + q = k0 ∧ iv = .int .i64 (r : Nat) ∧ (∀ i, i < r → LateP t x (L.getD i 0)) ∧ Below w'.heap.size w' wr)
  case atStart => exact ⟨0, by omega, rfl, fun i hi => by omega, Below.refl _ _⟩
  case round =>
    obtain ⟨r, hr, rfl, hall, hb⟩ := hrel
    have HR := Lib.hid hr
    have HALL := Lib.hid hall
    have HB := Lib.hid hb
    clear hr hall hb
    by_cases hlt : r < k0
    · have hlt' : decide (r < k0) = true := decide_eq_true hlt
      obtain ⟨bl, ol, e1, hbl2, cu⟩ := HAT.out r hlt
      subst e1
      obtain ⟨hk2, m, hm, hm16⟩ := HNAT.out r hlt
      rw [hm] at cu
      have cu1 := (HB.out.cell (p := ⟨bl, ol + r, none⟩) hbl2).trans cu
      have HM := Lib.hid hm
      have HK2 := Lib.hid hk2
      clear cu hm hk2
      have NOM := Lib.hid (fun (hh : ¬ LateP t x (m : Int)) => HNO.out r hlt (by rw [HM.out]; exact hh))
      obtain ⟨q, hq⟩ : ∃ q, q = 2 * m := ⟨_, rfl⟩
      have hqI : 2 * (m : Int) = (q : Int) := by omega
      have HQ := Lib.hid hq
      clear hq
      by_cases c1 : N ≤ m
      · have g1 : decide (N ≤ m) = true := decide_eq_true c1
        have HF := Lib.hid (NOM.out (fun hh => by have := ((HLP.out m).1 hh).1; omega))
        go_wp2_with fail
        go_ret
        exact ⟨retB HF.out, HB.out⟩
      · have g1 : decide (N ≤ m) = false := decide_eq_false c1
        have hqn : q < n := by have := HQ.out; omega
        cases hun : undZ (q : Int) (x : Int) with
        | false =>
          have HF := Lib.hid (NOM.out (fun hh => by
            have := ((HLP.out m).1 hh).2.1
            rw [← HQ.out, hun] at this
            cases this))
          have U1 := HUN.out q wr
          rw [hun] at U1
          have HU1 := Lib.hid U1
          clear U1 hun
          go_wp2_with fail
          refine (HU1.out).mono ?_
          rintro e' w2 ⟨rfl, rfl⟩
          go_wp2_with fail
          go_ret
          exact ⟨retB HF.out, HB.out⟩
        | true =>
          have U1 := HUN.out q wr
          rw [hun] at U1
          have HU1 := Lib.hid U1
          have HUND := Lib.hid hun
          clear U1 hun
          obtain ⟨b', off', l2, e2, eb, _, ckq, _, _⟩ := HGA.out wr HB.out q hqn
          simp only [Option.some.injEq, Addr.mk.injEq, and_true] at eb
          obtain ⟨rfl, rfl⟩ := eb
          by_cases c3 : (nd t q).kind = 0
          · have HF := Lib.hid (NOM.out (fun hh => by
              have := ((HLP.out m).1 hh).2.2.1
              rw [← HQ.out] at this
              exact this c3))
            rw [c3] at ckq
            have ckq' : wr.cell? ⟨b, off + q * 10, none⟩ = some (.int .u8 0) := ckq
            clear c3 ckq
            go_wp2_with fail
            refine (HU1.out).mono ?_
            rintro e' w2 ⟨rfl, rfl⟩
            go_wp2_with fail
            go_ret
            exact ⟨retB HF.out, HB.out⟩
          · obtain ⟨kq, hkq⟩ : ∃ k, k = (nd t q).kind := ⟨_, rfl⟩
            rw [← hkq] at ckq c3
            have g3 : ((kq : Int) == 0) = false := by rw [beq_eq_false_iff_ne]; omega
            have HKQ := Lib.hid hkq
            have hq1 : q + 1 < 2 * N := by omega
            have PA1 := Lib.hid (HPA.out q hq1 (by have := HQ.out; omega) wr)
            clear hkq
            go_wp2_with fail
            refine (HU1.out).mono ?_
            rintro e' w2 ⟨rfl, rfl⟩
            go_wp2_with fail
            refine (PA1.out).mono ?_
            rintro e' w2 ⟨pv, rfl, hown, hb2⟩
            have HB2 := Lib.hid (HB.out.trans (hb2.mono HB.out.size))
            have hpd : (nvs (ups q 0 d)).length = d := by rw [nvs_len, ups_len]
            obtain ⟨pa, pc, epv⟩ : ∃ a c, pv = .slice a d c := by obtain ⟨a, c, e, _⟩ := hown.rd; exact ⟨a, c, by rw [e, hpd]⟩
            subst epv
            have PT := fun (k : Nat) (hk : k < d) => hown.rd.at3 (u := .int .i64 (anc q (k + 1) : Nat)) (r := k) (by simp [nvs, ivs, ups_at q d 0 k hk])
            have HPT := Lib.hid PT
            have HXE := Lib.hid (show x = anc q (lev x) by
              have := HUL.out q hq1 (by have := HQ.out; omega)
              rw [HUND.out] at this
              exact of_decide_eq_true this.symm)
            have HLV1 := Lib.hid (HLXP.out HK2.out)
            have HMEM1 := Lib.hid (show (m : Int) ∈ (nd t x).par.late by rw [← HM.out]; exact HMEM.out r hlt)
            have hdn := HD.out
            clear hown hb2 PT hpd
            go_wp2_with fail
            obtain ⟨g1, rfl⟩ : ∃ g1, g1 = gk := ⟨_, rfl⟩
            obtain ⟨w1, rfl⟩ : ∃ w1, w1 = wr := ⟨_, rfl⟩
            go_loopg [49] d (fun q2 iv wv => ∃ k : Nat, k + q2 = d ∧ iv = .int .i64 (k : Nat) ∧ (∀ i, 1 ≤ i → i ≤ k → anc q i ≠ x ∧ ((nd t (anc q i)).kind ≠ 0 → (m : Int) ∈ (nd t (anc q i)).par.late)) ∧ wv = w2)
            case atStart => exact ⟨0, by omega, rfl, fun i h1 h2 => by omega, rfl⟩
            case round =>
              obtain ⟨k, hk, rfl, hway, rfl⟩ := hrel
              have HK := Lib.hid hk
              have HWY := Lib.hid hway
              clear hk hway
              by_cases hkd : k < d
              · have hkd' : decide (k < d) = true := decide_eq_true hkd
                obtain ⟨bp, op, e1, hbp, cp⟩ := HPT.out k hkd
                subst e1
                obtain ⟨p, hp⟩ : ∃ p, p = anc q (k + 1) := ⟨_, rfl⟩
                rw [← hp] at cp
                have HP := Lib.hid hp
                clear hp
                by_cases hpx : p = x
                · have g4 : ((p : Int) == (x : Int)) = true := by rw [beq_iff_eq]; omega
                  have HPX := Lib.hid hpx
                  have HFIN := Lib.hid (show LateP t x (m : Int) from (HLP.out m).2 ⟨by omega, by rw [← HQ.out]; exact HUND.out, by rw [← HQ.out, ← HKQ.out]; exact c3, by
                    have hw := HWAY.out m (by have := HQ.out; omega) HMEM1.out (by rw [← HQ.out]; exact HUND.out)
                    rw [← HQ.out] at hw
                    have hlx : lev x = k + 1 := by
                      have h1 := HXE.out
                      have h2 := HP.out
                      rw [HPX.out] at h2
                      have a1 := anc_lev q (k + 1)
                      rw [← h2] at a1
                      have a2 := anc_lev q (lev x)
                      rw [← h1] at a2
                      exact lev_unique a2 a1
                    rw [← HQ.out]
                    refine hw.1 fun i h1 h2 => ?_
                    exact (HWY.out i h1 (by omega)).2⟩)
                  clear hpx
                  go_wp2_with fail
                  go_roundg (g1 - 1)
                  case measure => have := HR.out; omega
                  case rel =>
                    refine ⟨r + 1, by have := HR.out; omega, by go_num, fun i hi => ?_, HB2.out⟩
                    by_cases e : i = r
                    · rw [e, HM.out]; exact HFIN.out
                    · exact HALL.out i (by omega)
                · have g4 : ((p : Int) == (x : Int)) = false := by rw [beq_eq_false_iff_ne]; omega
                  have HPX := Lib.hid hpx
                  have hpn : p < n := by
                    have := HANC.out q (k + 1) (by omega) (by omega)
                    rw [← HP.out] at this
                    omega
                  obtain ⟨b', off', l3, e3, eb, _, ckp, clp, hrp⟩ := HGA.out wr (HB2.out) p hpn
                  simp only [Option.some.injEq, Addr.mk.injEq, and_true] at eb
                  obtain ⟨rfl, rfl⟩ := eb
                  have B1 := HBS.out p hpn (m : Int) _ wr hrp
                  obtain ⟨kp, hkp⟩ : ∃ k, k = (nd t p).kind := ⟨_, rfl⟩
                  rw [← hkp] at ckp
                  have HKP := Lib.hid hkp
                  obtain ⟨lp, hlp⟩ : ∃ k, k = (nd t p).par.late.length := ⟨_, rfl⟩
                  rw [← hlp] at clp hrp B1
                  obtain ⟨is, his⟩ : ∃ b, b = decide ((m : Int) ∈ (nd t p).par.late) := ⟨_, rfl⟩
                  rw [← his] at B1
                  have HIS := Lib.hid his
                  have HB1 := Lib.hid B1
                  clear hkp hlp his B1 hrp hpx
                  by_cases k0' : kp = 0
                  · have HKK := Lib.hid k0'
                    have ckp' : wr.cell? ⟨b, off + p * 10, none⟩ = some (.int .u8 0) := by rw [ckp, k0']; rfl
                    clear k0' ckp
                    go_wp2_with fail
                    refine (HB1.out).mono ?_
                    rintro e' w3 ⟨pos, rfl, _, _, _, rfl⟩
                    go_wp2_with fail
                    go_roundg (gk - 1)
                    case measure => have := HK.out; omega
                    case rel =>
                      refine ⟨k + 1, by have := HK.out; omega, by go_num, fun i h1 h2 => ?_, rfl⟩
                      by_cases e : i = k + 1
                      · rw [e, ← HP.out]
                        exact ⟨HPX.out, fun hne => absurd (HKP.out.symm.trans HKK.out) hne⟩
                      · exact HWY.out i h1 (by omega)
                  · have HKK := Lib.hid k0'
                    have g5 : ((kp : Int) != 0) = true := by
                      have : ((kp : Int) == 0) = false := by rw [beq_eq_false_iff_ne]; omega
                      rw [bne, this]; rfl
                    have g6 : ((kp : Int) == 0) = false := by rw [beq_eq_false_iff_ne]; omega
                    cases is with
                    | true =>
                      clear k0'
                      go_wp2_with fail
                      refine (HB1.out).mono ?_
                      rintro e' w3 ⟨pos, rfl, _, _, _, rfl⟩
                      go_wp2_with fail
                      go_roundg (gk - 1)
                      case measure => have := HK.out; omega
                      case rel =>
                        refine ⟨k + 1, by have := HK.out; omega, by go_num, fun i h1 h2 => ?_, rfl⟩
                        by_cases e : i = k + 1
                        · rw [e, ← HP.out]
                          exact ⟨HPX.out, fun _ => of_decide_eq_true HIS.out.symm⟩
                        · exact HWY.out i h1 (by omega)
                    | false =>
                      have HF := Lib.hid (NOM.out (fun hh => by
                        have hw := HWAY.out m (by have := HQ.out; omega) HMEM1.out (by rw [← HQ.out]; exact HUND.out)
                        rw [← HQ.out] at hw
                        have hh2 := ((HLP.out m).1 hh).2.2.2
                        rw [← HQ.out] at hh2
                        have hlt2 : k + 1 < lev x := by
                          have h1 := HXE.out
                          have h3 := HLV1.out
                          rcases Nat.lt_or_ge (k + 1) (lev x) with h | h
                          · exact h
                          · exfalso
                            by_cases e : lev x = k + 1
                            · rw [e, ← HP.out] at h1
                              exact HPX.out h1.symm
                            · exact (HWY.out (lev x) h3 (by omega)).1 h1.symm
                        have hin := hw.2 hh2 (k + 1) (by omega) hlt2 (by rw [← HP.out, ← HKP.out]; exact HKK.out)
                        rw [← HP.out] at hin
                        exact absurd hin (of_decide_eq_false HIS.out.symm)))
                      clear k0'
                      go_wp2_with fail
                      refine (HB1.out).mono ?_
                      rintro e' w3 ⟨pos, rfl, _, _, _, rfl⟩
                      go_wp2_with fail
                      go_ret
                      exact ⟨retB HF.out, HB2.out⟩
              · exfalso
                have h1 := HXE.out
                have h2 := HLX.out
                have h3 := HLV1.out
                exact (HWY.out (lev x) h3 (by have := HK.out; omega)).1 h1.symm
    · obtain rfl : r = k0 := by have := HR.out; omega
      have hlt' : decide (r < r) = false := decide_eq_false hlt
      go_wp2_with fail
      go_ret
      exact ⟨retB (HYES.out HALL.out), HB.out⟩
theorem late_any (v : Value) (t : List NodeD) (x d : Nat) (w : World) (h : TreeR w v t) (hs : smallT t = true) (hp : placedB t = true) (hd : d ≤ 16) (hl : t.length + 1 = 2 * 2 ^ d) (hx : x < t.length) :
    Calls Tryz.prog 132 #[v, .int .i64 (x : Nat)] w fun e w' => e = .returned (.bool (lateTB t x)) ∧ Below w.heap.size w w' :=
  late_med v t x d w h (smallT_med hs) hp hd hl hx
end Go.Proofs.YtngealmhgkoaiaaGreat
/- Walks: tree.Right. -/
namespace Go.Proofs.YtngealmhgkoaiaaGreat
open Go.RowKit WalkM
set_option linter.unusedVariables false
/-- has the right half a leaf? -/
def someB (t : List NodeD) : Bool := if leavesN t.length = 1 then someK t else someK (t.drop (leavesN t.length))
def latesB (t : List NodeD) : Bool := (List.range t.length).all (lateTB t)
/-- which trees may be -/
def rightT (t : List NodeD) : Bool := decide (leavesN t.length ≠ 0) && (placedB t && (someB t && latesB t))
theorem latesB_yes {t : List NodeD} (h : ∀ x, x < t.length → lateTB t x = true) : latesB t = true := List.all_eq_true.2 fun x hx => h x (List.mem_range.1 hx)
theorem latesB_out {t : List NodeD} (h : latesB t = true) : ∀ x, x < t.length → lateTB t x = true := fun x hx => List.all_eq_true.1 h x (List.mem_range.2 hx)
theorem latesB_no {t : List NodeD} {x : Nat} (hx : x < t.length) (h : lateTB t x = false) : latesB t = false := by
  cases hb : latesB t with
  | false => rfl
  | true => rw [latesB_out hb x hx] at h; cases h
theorem nd_drop (t : List NodeD) (k i : Nat) : nd (t.drop k) i = nd t (k + i) := by
  unfold nd; rw [List.getD_eq_getElem?_getD, List.getElem?_drop, List.getD_eq_getElem?_getD]
theorem TreeR.drop {w : World} {b off n c : Nat} {t : List NodeD} (h : TreeR w (.slice (some ⟨b, off, none⟩) n c) t) (k : Nat) (hk : k ≤ n) {o' n' c' : Nat} (ho : o' = off + k * 10) (hn : n' = n - k) (hc : c' = c - k) : TreeR w (.slice (some ⟨b, o', none⟩) n' c') (t.drop k) := by
  obtain ⟨a', cap, e, h1, h2, h3⟩ := h
  simp only [Value.slice.injEq] at e
  obtain ⟨rfl, rfl, rfl⟩ := e
  subst ho hn hc
  refine ⟨_, _, by rw [List.length_drop], by rw [List.length_drop]; omega, by omega, fun i hi => ?_⟩
  rw [List.length_drop] at hi
  obtain ⟨b', off', cs, e, hl, hn, hr⟩ := h3 (k + i) (by omega)
  simp only [Option.some.injEq, Addr.mk.injEq, and_true] at e
  obtain ⟨rfl, rfl⟩ := e
  refine ⟨b, off + k * 10, cs, rfl, hl, by rw [nd_drop]; exact hn, ?_⟩
  rw [show off + k * 10 + i * 10 = off + (k + i) * 10 by omega]
  exact hr
set_option maxRecDepth 100000 in
set_option maxHeartbeats 4000000 in
theorem tright_med (v : Value) (t : List NodeD) (w : World) (h : TreeR w v t) (hs : medT t = true) (hok : TreeOk t) :
    Calls Tryz.prog 67 #[v] w fun e w' => e = .returned (.bool (rightT t)) ∧ Below w.heap.size w w' := by
  obtain ⟨a, c, rfl, hc, hc2⟩ := h.sl
  have hlen := medT_len hs
  have LV := fun (W : World) => tleaves_any a t.length c W (by omega)
  have PL := fun (W : World) (hw : Below w.heap.size w W) => placed_med (.slice a t.length c) t W (h.below hw (Nat.le_refl _)) hs hok
  have SM := fun (W : World) (hw : Below w.heap.size w W) => tsome_any (.slice a t.length c) t W (h.below hw (Nat.le_refl _)) hok
  obtain ⟨R, hR⟩ : ∃ R, R = rightT t := ⟨_, rfl⟩
  have hRe : R = (decide (leavesN t.length ≠ 0) && (placedB t && (someB t && latesB t))) := by rw [hR, rightT]
  rw [← hR]
  by_cases h0 : leavesN t.length = 0
  · rw [h0] at LV
    have HF := Lib.hid (show R = false by rw [hRe, h0]; rfl)
    obtain ⟨n, hn⟩ : ∃ n, n = t.length := ⟨_, rfl⟩
    rw [← hn] at LV ⊢
    have HLV := Lib.hid LV
    clear LV PL SM hRe hR h0 h hs hok hn hc hlen
    go_enter Tryz.func67, Tryz.ntmps67
    go_wp2_with fail
    refine (HLV.out w).mono ?_
    rintro e w' ⟨rfl, rfl⟩
    go_wp2_with fail
    go_ret
    exact ⟨retB HF.out, Below.refl _ _⟩
  · obtain ⟨d, hd, hN, hl⟩ := leavesN_pos h0
    rw [decide_eq_true h0, Bool.true_and] at hRe
    cases hp : placedB t with
    | false =>
      rw [hp] at PL hRe
      have HF := Lib.hid (show R = false by rw [hRe, Bool.false_and])
      obtain ⟨N, hNN⟩ : ∃ N, N = leavesN t.length := ⟨_, rfl⟩
      rw [← hNN] at LV h0
      obtain ⟨n, hn⟩ : ∃ n, n = t.length := ⟨_, rfl⟩
      rw [← hn] at LV PL ⊢
      have hq : ((N : Int) == 0) = false := by rw [beq_eq_false_iff_ne]; omega
      have HLV := Lib.hid LV
      have HPL := Lib.hid (PL w (Below.refl _ _))
      clear LV PL SM hRe hR h0 h hs hok hn hc hlen hl hN hNN
      go_enter Tryz.func67, Tryz.ntmps67
      go_wp2_with fail
      refine (HLV.out w).mono ?_
      rintro e w' ⟨rfl, rfl⟩
      go_wp2_with fail
      refine (HPL.out).mono ?_
      rintro e w2 ⟨rfl, hb⟩
      have HB := Lib.hid hb
      clear hb
      go_wp2_with fail
      go_ret
      exact ⟨retB HF.out, HB.out⟩
    | true =>
      rw [hp] at PL hRe
      rw [Bool.true_and] at hRe
      have LT := fun (x : Nat) (hx : x < t.length) (W : World) (hw : Below w.heap.size w W) => late_med (.slice a t.length c) t x d W (h.below hw (Nat.le_refl _)) hs hp hd hl hx
      have L1 := fun (hh : ∀ x, x < t.length → lateTB t x = true) => latesB_yes hh
      have L2 := fun (x : Nat) (hx : x < t.length) (hh : lateTB t x = false) => latesB_no hx hh
      have hn1 : t.length ≠ 0 := by have := pow_pos' d; omega
      obtain ⟨b, off, cs0, rfl, _, _, _⟩ := h.node (i := 0) (by omega)
      have hN2 : leavesN t.length ≤ t.length := by rw [hN]; have := pow_pos' d; omega
      have SD := fun (W : World) (hw : Below w.heap.size w W) => tsome_any (.slice (some ⟨b, off + leavesN t.length * 10, none⟩) (t.length - leavesN t.length) (c - leavesN t.length)) (t.drop (leavesN t.length)) W ((h.below hw (Nat.le_refl _)).drop _ hN2 rfl rfl rfl) (fun d hd => hok d (List.mem_of_mem_drop hd))
      have hsb : someB t = if leavesN t.length = 1 then someK t else someK (t.drop (leavesN t.length)) := rfl
      have hNl : 2 * leavesN t.length = t.length + 1 := by rw [hN]; omega
      obtain ⟨N, hNN⟩ : ∃ N, N = leavesN t.length := ⟨_, rfl⟩
      rw [← hNN] at LV h0 SD hsb hNl
      obtain ⟨n, hn⟩ : ∃ n, n = t.length := ⟨_, rfl⟩
      rw [← hn] at LV PL SM LT L1 L2 SD hNl hc hlen ⊢
      obtain ⟨sb, hsb'⟩ : ∃ b, b = someB t := ⟨_, rfl⟩
      rw [← hsb'] at hRe hsb
      obtain ⟨lb, hlb⟩ : ∃ b, b = latesB t := ⟨_, rfl⟩
      rw [← hlb] at hRe L1 L2
      have hq : ((N : Int) == 0) = false := by rw [beq_eq_false_iff_ne]; omega
      have HLV := Lib.hid LV
      have HPL := Lib.hid (PL w (Below.refl _ _))
      have HSM := Lib.hid SM
      have HSD := Lib.hid SD
      have HLT := Lib.hid LT
      have HL1 := Lib.hid L1
      have HL2 := Lib.hid L2
      have HRE := Lib.hid hRe
      have HSB := Lib.hid hsb
      have hnc : n ≤ c := hc
      clear LV PL SM SD LT L1 L2 hRe hsb hR h hs hok hn hl hN hNN hsb' hlb hp hd hN2 hc
      by_cases hN1 : N = 1
      · have HSE := Lib.hid (show sb = someK t by rw [HSB.out, if_pos hN1])
        subst hN1
        cases hsm : someK t with
        | false =>
          have HSF := Lib.hid hsm
          have HF := Lib.hid (show R = false by rw [HRE.out, HSE.out, hsm, Bool.false_and])
          clear hsm
          go_enter Tryz.func67, Tryz.ntmps67
          go_wp2_with fail
          refine (HLV.out w).mono ?_
          rintro e w' ⟨rfl, rfl⟩
          go_wp2_with fail
          refine (HPL.out).mono ?_
          rintro e w2 ⟨rfl, hb⟩
          have HB := Lib.hid hb
          have C1 := HSM.out w2 hb
          rw [HSF.out] at C1
          have HC1 := Lib.hid C1
          clear hb C1
          go_wp2_with fail
          refine (HC1.out).mono ?_
          rintro e w4 ⟨rfl, hb⟩
          have HB4 := Lib.hid (HB.out.trans (hb.mono HB.out.size))
          clear hb
          go_wp2_with fail
          go_ret
          exact ⟨retB HF.out, HB4.out⟩
        | true =>
          have HSF := Lib.hid hsm
          have HST := Lib.hid (show sb = true by rw [HSE.out, hsm])
          clear hsm
          go_enter Tryz.func67, Tryz.ntmps67
          go_wp2_with fail
          refine (HLV.out w).mono ?_
          rintro e w' ⟨rfl, rfl⟩
          go_wp2_with fail
          refine (HPL.out).mono ?_
          rintro e w2 ⟨rfl, hb⟩
          have HB := Lib.hid hb
          have C1 := HSM.out w2 hb
          rw [HSF.out] at C1
          have HC1 := Lib.hid C1
          clear hb C1
          go_wp2_with fail
          refine (HC1.out).mono ?_
          rintro e w4 ⟨rfl, hb⟩
          have HB4 := Lib.hid (HB.out.trans (hb.mono HB.out.size))
          clear hb
          go_wp2_with fail
          go_loopg [36] n (fun q iv wr => ∃ r : Nat, r + q = n ∧ iv = .int .i64 (r : Nat) ∧ (∀ i, i < r → lateTB t i = true) ∧ Below w'.heap.size w' wr)
          case atStart => exact ⟨0, by omega, rfl, fun i hi => by omega, HB4.out⟩
          case round =>
            obtain ⟨r, hr, rfl, hall, hb⟩ := hrel
            have HR := Lib.hid hr
            have HALL := Lib.hid hall
            have HB := Lib.hid hb
            clear hr hall hb
            by_cases hlt : r < n
            · have hlt' : decide (r < n) = true := decide_eq_true hlt
              have CC := HLT.out r hlt wr HB.out
              cases hk : lateTB t r with
              | true =>
                rw [hk] at CC
                have HCC := Lib.hid CC
                have HF := Lib.hid hk
                clear CC hk
                go_wp2_with fail
                refine (HCC.out).mono ?_
                rintro e w2 ⟨rfl, hb2⟩
                have HB2 := Lib.hid (HB.out.trans (hb2.mono HB.out.size))
                clear hb2
                go_wp2_with fail
                go_roundg (gk - 1)
                case measure => have := HR.out; omega
                case rel =>
                  refine ⟨r + 1, by have := HR.out; omega, by go_num, fun i hi => ?_, HB2.out⟩
                  by_cases e : i = r
                  · rw [e]; exact HF.out
                  · exact HALL.out i (by omega)
              | false =>
                rw [hk] at CC
                have HCC := Lib.hid CC
                have HF := Lib.hid (show R = false by rw [HRE.out, HL2.out r hlt hk, Bool.and_false])
                clear CC hk
                go_wp2_with fail
                refine (HCC.out).mono ?_
                rintro e w2 ⟨rfl, hb2⟩
                have HB2 := Lib.hid (HB.out.trans (hb2.mono HB.out.size))
                clear hb2
                go_wp2_with fail
                go_ret
                exact ⟨retB HF.out, HB2.out⟩
            · obtain rfl : r = n := by have := HR.out; omega
              have hlt' : decide (r < r) = false := decide_eq_false hlt
              have HF := Lib.hid (show R = true by rw [HRE.out, HL1.out HALL.out, HST.out]; rfl)
              go_wp2_with fail
              go_ret
              exact ⟨retB HF.out, HB.out⟩
      · have HSE := Lib.hid (show sb = someK (t.drop N) by rw [HSB.out, if_neg hN1])
        have hq1 : ((N : Int) == 1) = false := by rw [beq_eq_false_iff_ne]; omega
        have hg1 : decide ((N : Int) > 1) = true := by rw [decide_eq_true_iff]; omega
        have hg2 : decide ((1 : Int) < (N : Int)) = true := by rw [decide_eq_true_iff]; omega
        have hNlt : N ≤ n := by omega
        have hcN : c ≠ N := by omega
        cases hsm : someK (t.drop N) with
        | false =>
          have HSF := Lib.hid hsm
          have HF := Lib.hid (show R = false by rw [HRE.out, HSE.out, hsm, Bool.false_and])
          clear hsm
          go_enter Tryz.func67, Tryz.ntmps67
          go_wp2_with fail
          refine (HLV.out w).mono ?_
          rintro e w' ⟨rfl, rfl⟩
          go_wp2_with fail
          refine (HPL.out).mono ?_
          rintro e w2 ⟨rfl, hb⟩
          have HB := Lib.hid hb
          have C1 := HSD.out w2 hb
          rw [HSF.out] at C1
          have HC1 := Lib.hid C1
          clear hb C1
          go_wp2_with fail
          refine (HC1.out).mono ?_
          rintro e w4 ⟨rfl, hb⟩
          have HB4 := Lib.hid (HB.out.trans (hb.mono HB.out.size))
          clear hb
          go_wp2_with fail
          go_ret
          exact ⟨retB HF.out, HB4.out⟩
        | true =>
          have HSF := Lib.hid hsm
          have HST := Lib.hid (show sb = true by rw [HSE.out, hsm])
          clear hsm
          go_enter Tryz.func67, Tryz.ntmps67
          go_wp2_with fail
          refine (HLV.out w).mono ?_
          rintro e w' ⟨rfl, rfl⟩
          go_wp2_with fail
          refine (HPL.out).mono ?_
          rintro e w2 ⟨rfl, hb⟩
          have HB := Lib.hid hb
          have C1 := HSD.out w2 hb
          rw [HSF.out] at C1
          have HC1 := Lib.hid C1
          clear hb C1
          go_wp2_with fail
          refine (HC1.out).mono ?_
          rintro e w4 ⟨rfl, hb⟩
          have HB4 := Lib.hid (HB.out.trans (hb.mono HB.out.size))
          clear hb
          go_wp2_with fail
          go_loopg [36] n (fun q iv wr => ∃ r : Nat, r + q = n ∧ iv = .int .i64 (r : Nat) ∧ (∀ i, i < r → lateTB t i = true) ∧ Below w'.heap.size w' wr)
          case atStart => exact ⟨0, by omega, rfl, fun i hi => by omega, HB4.out⟩
          case round =>
            obtain ⟨r, hr, rfl, hall, hb⟩ := hrel
            have HR := Lib.hid hr
            have HALL := Lib.hid hall
            have HB := Lib.hid hb
            clear hr hall hb
            by_cases hlt : r < n
            · have hlt' : decide (r < n) = true := decide_eq_true hlt
              have CC := HLT.out r hlt wr HB.out
              cases hk : lateTB t r with
              | true =>
                rw [hk] at CC
                have HCC := Lib.hid CC
                have HF := Lib.hid hk
                clear CC hk
                go_wp2_with fail
                refine (HCC.out).mono ?_
                rintro e w2 ⟨rfl, hb2⟩
                have HB2 := Lib.hid (HB.out.trans (hb2.mono HB.out.size))
                clear hb2
                go_wp2_with fail
                go_roundg (gk - 1)
                case measure => have := HR.out; omega
                case rel =>
                  refine ⟨r + 1, by have := HR.out; omega, by go_num, fun i hi => ?_, HB2.out⟩
                  by_cases e : i = r
                  · rw [e]; exact HF.out
                  · exact HALL.out i (by omega)
              | false =>
                rw [hk] at CC
                have HCC := Lib.hid CC
                have HF := Lib.hid (show R = false by rw [HRE.out, HL2.out r hlt hk, Bool.and_false])
                clear CC hk
                go_wp2_with fail
                refine (HCC.out).mono ?_
                rintro e w2 ⟨rfl, hb2⟩
                have HB2 := Lib.hid (HB.out.trans (hb2.mono HB.out.size))
                clear hb2
                go_wp2_with fail
                go_ret
                exact ⟨retB HF.out, HB2.out⟩
            · obtain rfl : r = n := by have := HR.out; omega
              have hlt' : decide (r < r) = false := decide_eq_false hlt
              have HF := Lib.hid (show R = true by rw [HRE.out, HL1.out HALL.out, HST.out]; rfl)
              go_wp2_with fail
              go_ret
              exact ⟨retB HF.out, HB.out⟩
theorem tright_any (v : Value) (t : List NodeD) (w : World) (h : TreeR w v t) (hs : smallT t = true) (hok : TreeOk t) :
    Calls Tryz.prog 67 #[v] w fun e w' => e = .returned (.bool (rightT t)) ∧ Below w.heap.size w w' :=
  tright_med v t w h (smallT_med hs) hok
end Go.Proofs.YtngealmhgkoaiaaGreat
/- Walk: tree.Bytes of what is no tree. -/
namespace Go.Proofs.YtngealmhgkoaiaaGreat
open Go.RowKit WireM
set_option linter.unusedVariables false
set_option maxRecDepth 100000 in
set_option maxHeartbeats 2000000 in
theorem tbytes_no (v : Value) (t : List NodeD) (w : World) (h : TreeR w v t) (hs : medT t = true) (hok : TreeOk t) (hr : rightT t = false) :
    Calls Tryz.prog 17 #[v] w fun e w' => e = .returned (.tuple #[.slice none 0 0, .int .u8 12]) ∧ Below w.heap.size w w' := by
  have TR := tright_med v t w h hs hok
  rw [hr] at TR
  have HTR := Lib.hid TR
  obtain ⟨a, c, rfl, -⟩ := h.sl
  clear TR h hs hok hr
  go_enter Tryz.func17, Tryz.ntmps17
  go_wp2_with fail
  refine HTR.out.mono ?_
  rintro e w1 ⟨rfl, hb1⟩
  have HB1 := Lib.hid hb1
  clear hb1
  go_wp2_with fail
  go_ret2
  exact ⟨rfl, HB1.out⟩
end Go.Proofs.YtngealmhgkoaiaaGreat
/- Plain: which leaves count. -/
namespace Go.Proofs.YtngealmhgkoaiaaGreat
open Go.RowKit WalkM
set_option linter.unusedVariables false
/-- has one of the first r nodes that count a leaf? -/
def someU (t : List NodeD) (N r : Nat) : Bool := (List.range r).any fun i => (nd t i).kind == 1 && (N == 1 || decide (N ≤ i))
theorem someU_succ (t : List NodeD) (N r : Nat) : someU t N (r + 1) = (someU t N r || ((nd t r).kind == 1 && (N == 1 || decide (N ≤ r)))) := by
  unfold someU; rw [List.range_succ, List.any_append]; simp
theorem someU_all {t : List NodeD} {N : Nat} (h : leavesN t.length = N) (hN : N ≤ t.length) : someU t N t.length = someB t := by
  have key : someU t N t.length = true ↔ someB t = true := by
    unfold someU someB someK
    rw [h, List.any_eq_true]
    constructor
    · rintro ⟨i, hi, hk⟩
      rw [List.mem_range] at hi
      rw [Bool.and_eq_true, beq_iff_eq, Bool.or_eq_true, beq_iff_eq, decide_eq_true_iff] at hk
      have hd : (nd t i) = t[i] := by rw [nd, List.getD_eq_getElem?_getD, List.getElem?_eq_getElem hi]; rfl
      by_cases h1 : N = 1
      · rw [if_pos h1, List.any_eq_true]
        exact ⟨t[i], List.getElem_mem hi, by rw [← hd, beq_iff_eq]; exact hk.1⟩
      · rw [if_neg h1, List.any_eq_true]
        have hni : N ≤ i := by rcases hk.2 with h2 | h2; exact absurd h2 h1; exact h2
        refine ⟨t[i], ?_, by rw [← hd, beq_iff_eq]; exact hk.1⟩
        rw [List.mem_drop_iff_getElem]
        exact ⟨i - N, by omega, by congr 1; omega⟩
    · intro hs
      by_cases h1 : N = 1
      · rw [if_pos h1, List.any_eq_true] at hs
        obtain ⟨d, hd, hk⟩ := hs
        obtain ⟨i, hi, rfl⟩ := List.getElem_of_mem hd
        refine ⟨i, List.mem_range.2 hi, ?_⟩
        have hd : (nd t i) = t[i] := by rw [nd, List.getD_eq_getElem?_getD, List.getElem?_eq_getElem hi]; rfl
        rw [hd, hk, h1]; rfl
      · rw [if_neg h1, List.any_eq_true] at hs
        obtain ⟨d, hd, hk⟩ := hs
        obtain ⟨i, hi, e⟩ := List.mem_drop_iff_getElem.1 hd
        refine ⟨N + i, List.mem_range.2 (by omega), ?_⟩
        have hd : (nd t (N + i)) = d := by rw [nd, List.getD_eq_getElem?_getD, List.getElem?_eq_getElem (by omega), ← e]; rfl
        rw [hd, hk, Bool.true_and, Bool.or_eq_true, decide_eq_true_iff]
        exact .inr (by omega)
  cases h1 : someU t N t.length <;> cases h2 : someB t <;> simp_all
end Go.Proofs.YtngealmhgkoaiaaGreat
/- Walks: tree.members, tree.Members. -/
namespace Go.Proofs.YtngealmhgkoaiaaGreat
open Go.RowKit WalkM WireM
set_option linter.unusedVariables false
/-- a node's cells, written out -/
theorem NodeC.flat {w : World} {d : NodeD} {c : Array Value} (h : NodeC w d c) : ∃ (kd s l1 l2 l3 l4 l5 l6 l7 l8 c1 c2 c3 c4 c5 e1 e2 e3 : Nat) (a1 a2 a3 a4 a5 b1 b2 b3 : Option Addr),
    c = #[.int .u8 (kd : Nat), .slice a1 l1 c1, .slice a2 l2 c2, .slice a3 l3 c3, .int .u8 (s : Nat), .slice a4 l4 c4, .slice a5 l5 c5, .slice b1 l6 e1, .slice b2 l7 e2, .slice b3 l8 e3] ∧ kd = d.kind ∧ l8 = d.par.late.length ∧ Rd w (.slice b3 l8 e3) (ivs .i64 d.par.late) := by
  obtain ⟨a1, c1, a2, c2, a3, c3, a4, c4, a5, c5, b1, e1, b2, e2, b3, e3, hcs, h1, h2, h3, h4, h5, h6, h7, h8⟩ := h
  exact ⟨_, _, _, _, _, _, _, _, _, _, _, _, _, _, _, _, _, _, _, _, _, _, _, _, _, _, hcs, rfl, rfl, h8⟩
/-- the members' places among the first nodes -/
def memL (t : List NodeD) (m : Nat) : List Int := ((List.range m).filter fun x => (nd t x).kind == 1).map fun x => ((x / 2 : Nat) : Int)
theorem memL_yes {t : List NodeD} {m : Nat} (h : (nd t m).kind = 1) : memL t (m + 1) = memL t m ++ [((m / 2 : Nat) : Int)] := by
  unfold memL
  rw [List.range_succ, List.filter_append, List.map_append]
  congr 1
  rw [List.filter_cons_of_pos (by rw [h]; rfl)]; rfl
theorem memL_no {t : List NodeD} {m : Nat} (h : (nd t m).kind ≠ 1) : memL t (m + 1) = memL t m := by
  unfold memL
  rw [List.range_succ, List.filter_append, List.map_append, List.filter_cons_of_neg (by simpa using h)]; simp
theorem memL_len (t : List NodeD) (m : Nat) : (memL t m).length ≤ m := by
  unfold memL
  rw [List.length_map]
  exact Nat.le_trans (List.length_filter_le _ _) (by simp)
set_option maxRecDepth 100000 in
set_option maxHeartbeats 4000000 in
theorem members_any (v : Value) (t : List NodeD) (w : World) (h : TreeR w v t) (hok : TreeOk t) (hlen : t.length ≤ 1000) :
    Calls Tryz.prog 127 #[v] w fun e w' => ∃ v', e = .returned v' ∧ Own w' w.heap.size 3 v' (ivs .i64 (memL t t.length)) ∧ Below w.heap.size w w' := by
  obtain ⟨a, c, rfl, hc, hc2⟩ := h.sl
  have GN := fun (W : World) (hw : Below w.heap.size w W) (i : Nat) (hi : i < t.length) => (h.below hw (Nat.le_refl _)).node hi
  have K := fun (i : Nat) => (hok.nd i).kind
  obtain ⟨n, hn⟩ : ∃ n, n = t.length := ⟨_, rfl⟩
  rw [← hn] at GN hc hlen ⊢
  have HGN := Lib.hid GN
  have HK := Lib.hid K
  clear GN K h hn hok
  go_enter Tryz.func127, Tryz.ntmps127
  go_wp2_with fail
  go_loopg [3, 8] n (fun q ov iv wr => ∃ r : Nat, r + q = n ∧ iv = .int .i64 (r : Nat) ∧ Own wr w.heap.size 3 ov (ivs .i64 (memL t r)) ∧ Below w.heap.size w wr)
  case atStart => exact ⟨0, by omega, rfl, Own.nil _ _ _, Below.refl _ _⟩
  case round =>
    obtain ⟨r, hr, rfl, hown, hb⟩ := hrel
    have HR := Lib.hid hr
    have HO := Lib.hid hown
    have HB := Lib.hid hb
    by_cases hlt : r < n
    · have hlt' : decide (r < n) = true := decide_eq_true hlt
      have hltI : (r : Int) < (n : Int) := by omega
      obtain ⟨b, off, cs, rfl, hbl, hnc, hra⟩ := HGN.out wr hb r hlt
      have hkd0 := HK.out r
      obtain ⟨kd, s, l1, l2, l3, l4, l5, l6, l7, l8, c1, c2, c3, c4, c5, e1, e2, e3, a1, a2, a3, a4, a5, b1, b2, b3, rfl, hkd, -, -⟩ := hnc.flat
      rw [← hkd] at hkd0
      have HRA := Lib.hid hra
      have HKD := Lib.hid hkd
      obtain ⟨m, hm⟩ : ∃ m, m = r / 2 := ⟨_, rfl⟩
      have hq : (r : Int) / 2 = (m : Int) := by omega
      have HM := Lib.hid hm
      obtain ⟨p1, p2, p3, rfl⟩ := slOf hown
      have hml := memL_len t r
      have HML := Lib.hid hml
      clear hnc hra hkd hm hr hown hb hml
      have HBA := Lib.hid (HB.out.alloc HB.out.size (.cells #[.int .u8 (kd : Nat), .slice a1 l1 c1, .slice a2 l2 c2, .slice a3 l3 c3, .int .u8 (s : Nat), .slice a4 l4 c4, .slice a5 l5 c5, .slice b1 l6 e1, .slice b2 l7 e2, .slice b3 l8 e3] 54))
      by_cases hk : kd = 1
      · have hq1 : ((kd : Int) == 1) = true := by rw [beq_iff_eq]; omega
        have HE := Lib.hid (memL_yes (t := t) (m := r) (by rw [← HKD.out]; exact hk))
        clear hk
        go_wp2_with (first | (refine wpList_load_mid rfl 54 (.tmp 11) rfl b (off + r * 10) rfl [.int .u8 (kd : Nat), .slice a1 l1 c1, .slice a2 l2 c2, .slice a3 l3 c3, .int .u8 (s : Nat), .slice a4 l4 c4, .slice a5 l5 c5, .slice b1 l6 e1, .slice b2 l7 e2, .slice b3 l8 e3] _ HRA.out Tryz.underlying54 rfl node_info ?_) | (at_builtin; refine wpList_push rfl (.tmp 16) (.tmp 19) 50 rfl w.heap.size 3 _ 8 intsE _ _ rfl ((HO.out.alloc (.cells #[.int .u8 (kd : Nat), .slice a1 l1 c1, .slice a2 l2 c2, .slice a3 l3 c3, .int .u8 (s : Nat), .slice a4 l4 c4, .slice a5 l5 c5, .slice b1 l6 e1, .slice b2 l7 e2, .slice b3 l8 e3] 54)).alloc _) ⟨wr.heap.size + 1, 0, none⟩ (.int .i64 (m : Int)) rfl ?c1 rfl ?c2 ?c3 ?_))
        case c2 => rw [ivs_len']; have := HML.out; omega
        case c3 => have := HB.out.size; simp; omega
        rintro v' w1 hown1 - hb1
        have HO1 := Lib.hid hown1
        have HB1 := Lib.hid ((HBA.out.alloc HBA.out.size (.cells #[.int .i64 (m : Int)] 3)).trans hb1)
        clear hown1 hb1
        go_wp2_with fail
        go_roundg (gk - 1)
        case measure => have := HR.out; omega
        case rel =>
          refine ⟨r + 1, by have := HR.out; omega, by go_num, ?_, HB1.out⟩
          rw [HE.out, ← HM.out]
          have := HO1.out
          simpa [ivs] using this
      · have hq1 : ((kd : Int) == 1) = false := by rw [beq_eq_false_iff_ne]; omega
        have hq2 : (kd : Int) ≠ 1 := by omega
        have HE := Lib.hid (memL_no (t := t) (m := r) (by rw [← HKD.out]; exact hk))
        clear hk
        go_wp2_with (refine wpList_load_mid rfl 54 (.tmp 11) rfl b (off + r * 10) rfl [.int .u8 (kd : Nat), .slice a1 l1 c1, .slice a2 l2 c2, .slice a3 l3 c3, .int .u8 (s : Nat), .slice a4 l4 c4, .slice a5 l5 c5, .slice b1 l6 e1, .slice b2 l7 e2, .slice b3 l8 e3] _ HRA.out Tryz.underlying54 rfl node_info ?_)
        go_roundg (gk - 1)
        case measure => have := HR.out; omega
        case rel =>
          refine ⟨r + 1, by have := HR.out; omega, by go_num, ?_, HBA.out⟩
          rw [HE.out]
          exact HO.out.alloc _
    · obtain rfl : r = n := by omega
      have hlt' : decide (r < r) = false := decide_eq_false hlt
      clear hr hown hb hlt
      go_wp2_with fail
      go_ret
      exact ⟨_, rfl, HO.out, HB.out⟩
set_option maxRecDepth 100000 in
set_option maxHeartbeats 4000000 in
theorem tmembers_no_med (v : Value) (t : List NodeD) (w : World) (h : TreeR w v t) (hs : medT t = true) (hok : TreeOk t) (hr : rightT t = false) :
    Calls Tryz.prog 65 #[v] w fun e w' => e = .returned (.slice none 0 0) ∧ Below w.heap.size w w' := by
  have TR := tright_med v t w h hs hok
  rw [hr] at TR
  have HT := Lib.hid TR
  obtain ⟨a, n, c, rfl⟩ : ∃ a n c, v = .slice a n c := by obtain ⟨a, c, e, _⟩ := h.sl; exact ⟨_, _, _, e⟩
  clear TR h hs hok hr
  go_enter Tryz.func65, Tryz.ntmps65
  go_wp2_with fail
  refine (HT.out).mono ?_
  rintro e w1 ⟨rfl, hb⟩
  go_wp2_with fail
  go_ret
  exact ⟨rfl, hb⟩
set_option maxRecDepth 100000 in
set_option maxHeartbeats 4000000 in
theorem tmembers_yes_med (v : Value) (t : List NodeD) (w : World) (h : TreeR w v t) (hs : medT t = true) (hok : TreeOk t) (hr : rightT t = true) :
    Calls Tryz.prog 65 #[v] w fun e w' => ∃ v', e = .returned v' ∧ Own w' w.heap.size 3 v' (ivs .i64 (memL t t.length)) ∧ Below w.heap.size w w' := by
  have TR := tright_med v t w h hs hok
  rw [hr] at TR
  have HT := Lib.hid TR
  have HM := Lib.hid (fun (W : World) (hw : Below w.heap.size w W) => members_any v t W (h.below hw (Nat.le_refl _)) hok (by have := medT_len hs; omega))
  obtain ⟨a, c, rfl, hc, hc2⟩ := h.sl
  obtain ⟨n, hn⟩ : ∃ n, n = t.length := ⟨_, rfl⟩
  rw [← hn] at HT HM ⊢
  clear TR h hs hok hr hn hc
  go_enter Tryz.func65, Tryz.ntmps65
  go_wp2_with fail
  refine (HT.out).mono ?_
  rintro e w1 ⟨rfl, hb⟩
  have HB := Lib.hid hb
  clear hb
  go_wp2_with fail
  refine (HM.out w1 HB.out).mono ?_
  rintro e w2 ⟨v2, rfl, hown, hb⟩
  have HO := Lib.hid (hown.mono HB.out.size)
  have HB2 := Lib.hid (HB.out.trans (hb.mono HB.out.size))
  clear hown hb
  go_wp2_with fail
  go_ret
  exact ⟨_, rfl, HO.out, HB2.out⟩
theorem tmembers_no (v : Value) (t : List NodeD) (w : World) (h : TreeR w v t) (hs : smallT t = true) (hok : TreeOk t) (hr : rightT t = false) :
    Calls Tryz.prog 65 #[v] w fun e w' => e = .returned (.slice none 0 0) ∧ Below w.heap.size w w' :=
  tmembers_no_med v t w h (smallT_med hs) hok hr
theorem tmembers_yes (v : Value) (t : List NodeD) (w : World) (h : TreeR w v t) (hs : smallT t = true) (hok : TreeOk t) (hr : rightT t = true) :
    Calls Tryz.prog 65 #[v] w fun e w' => ∃ v', e = .returned v' ∧ Own w' w.heap.size 3 v' (ivs .i64 (memL t t.length)) ∧ Below w.heap.size w w' :=
  tmembers_yes_med v t w h (smallT_med hs) hok hr
end Go.Proofs.YtngealmhgkoaiaaGreat
/- Plain: the children of a node of a level. -/
namespace Go.Proofs.YtngealmhgkoaiaaGreat
open Go.RowKit WalkM
set_option linter.unusedVariables false
theorem kids_lev {x k : Nat} (hx : x ≤ 131070) (h : IsLev x (k + 1)) : leftZ (x : Int) = ((x - 2 ^ k : Nat) : Int) ∧ rightZ (x : Int) = ((x + 2 ^ k : Nat) : Int) ∧ IsLev (x - 2 ^ k) k ∧ IsLev (x + 2 ^ k) k ∧ 2 ^ k ≤ x := by
  have hl := lev_eq hx h
  have hz : levZ (x : Int) = ((k + 1 : Nat) : Int) := by
    rw [levZ, if_pos (by unfold isNode; rw [decide_eq_true_iff]; omega), Int.toNat_natCast, hl]
  have hp : 0 < 2 ^ k := Nat.pos_of_ne_zero (by simp)
  have hh : halfZ (x : Int) = ((2 ^ k : Nat) : Int) := by
    rw [halfZ, hz, if_pos (by omega), show (((k + 1 : Nat) : Int) - 1).toNat = k by omega, Int.natCast_pow]; rfl
  unfold IsLev at h ⊢
  have e1 : 2 ^ (k + 1) = 2 * 2 ^ k := by rw [Nat.pow_succ]; omega
  have e2 : 2 ^ (k + 1 + 1) = 4 * 2 ^ k := by rw [Nat.pow_succ, e1]; omega
  rw [e2, e1] at h
  rw [e1]
  have hd := Nat.div_add_mod x (4 * 2 ^ k)
  rw [h] at hd
  have hpx : 2 ^ k ≤ x := by omega
  refine ⟨?_, ?_, ?_, ?_, hpx⟩
  · rw [leftZ, hh, if_neg (by omega)]; omega
  · rw [rightZ, hh, if_neg (by omega)]; omega
  · have e : x - 2 ^ k = 2 * 2 ^ k * (2 * (x / (4 * 2 ^ k))) + (2 ^ k - 1) := by
      have : 2 * 2 ^ k * (2 * (x / (4 * 2 ^ k))) = 4 * 2 ^ k * (x / (4 * 2 ^ k)) := by rw [Nat.mul_left_comm, ← Nat.mul_assoc, ← Nat.mul_assoc]
      omega
    rw [e, Nat.mul_add_mod]; exact Nat.mod_eq_of_lt (by omega)
  · have e : x + 2 ^ k = 2 * 2 ^ k * (2 * (x / (4 * 2 ^ k)) + 1) + (2 ^ k - 1) := by
      have : 2 * 2 ^ k * (2 * (x / (4 * 2 ^ k)) + 1) = 4 * 2 ^ k * (x / (4 * 2 ^ k)) + 2 * 2 ^ k := by rw [Nat.mul_add, Nat.mul_one, Nat.mul_left_comm, ← Nat.mul_assoc, ← Nat.mul_assoc]
      omega
    rw [e, Nat.mul_add_mod]; exact Nat.mod_eq_of_lt (by omega)
theorem lev_zero {x : Nat} (h : IsLev x 0) : x % 2 = 0 := by unfold IsLev at h; simpa using h
theorem lev_succ {x k : Nat} (h : IsLev x (k + 1)) : x % 2 = 1 := by
  unfold IsLev at h
  have e2 : 2 ^ (k + 1 + 1) = 2 * 2 ^ (k + 1) := by rw [Nat.pow_succ]; omega
  have e1 : 2 ^ (k + 1) = 2 * 2 ^ k := by rw [Nat.pow_succ]; omega
  have hp : 0 < 2 ^ k := Nat.pos_of_ne_zero (by simp)
  have := Nat.mod_mod_of_dvd x (show 2 ∣ 2 ^ (k + 1 + 1) from ⟨2 ^ (k + 1), e2⟩)
  rw [h] at this
  omega
/-- all beneath a node lies in the tree -/
theorem under_in {x d : Nat} (hx : x + 1 < 2 ^ (d + 1)) (hd : d ≤ 16) : x + 2 ^ lev x + 1 ≤ 2 ^ (d + 1) := by
  have h17 : 2 ^ (d + 1) ≤ 2 ^ 17 := Nat.pow_le_pow_right (by omega) (by omega)
  have hxl : x ≤ 131070 := by have : (2 : Nat) ^ 17 = 131072 := rfl; omega
  have hl := lev_is hxl
  have hld := (lev_root hx hl).1
  have hph := phi_le (x := x) (d := d) (by omega) hld
  have ha := anc_self hl
  rw [anc_plo] at ha
  have e : phi x (lev x) = plo x (lev x) + (2 ^ (lev x + 1) - 2) := rfl
  have e1 : 2 ^ (lev x + 1) = 2 * 2 ^ lev x := by rw [Nat.pow_succ]; omega
  have hp : 0 < 2 ^ lev x := Nat.pos_of_ne_zero (by simp)
  omega
end Go.Proofs.YtngealmhgkoaiaaGreat
/- Walks: tree.resolve. -/
namespace Go.Proofs.YtngealmhgkoaiaaGreat
open Go.RowKit WalkM WireM
set_option linter.unusedVariables false
/-- what a node that is not blank resolves to -/
def fullR (d : NodeD) (x : Nat) : List Int := (x : Int) :: d.par.late.map fun u => 2 * u
/-- what a node of a level resolves to -/
def resN (t : Nat → NodeD) : Nat → Nat → List Int
  | 0, x => if (t x).kind = 0 then [] else fullR (t x) x
  | k + 1, x => if (t x).kind = 0 then resN t k (x - 2 ^ k) ++ resN t k (x + 2 ^ k) else fullR (t x) x
theorem resN_full {t : Nat → NodeD} {k x : Nat} (h : (t x).kind ≠ 0) : resN t k x = fullR (t x) x := by cases k <;> simp only [resN, if_neg h]
theorem resN_zero {t : Nat → NodeD} {x : Nat} (h : (t x).kind = 0) : resN t 0 x = [] := by simp only [resN, if_pos h]
theorem resN_succ {t : Nat → NodeD} {k x : Nat} (h : (t x).kind = 0) : resN t (k + 1) x = resN t k (x - 2 ^ k) ++ resN t k (x + 2 ^ k) := by simp only [resN, if_pos h]
theorem fullR_len {d : NodeD} (h : smallB d = true) (x : Nat) : (fullR d x).length ≤ 61 := by
  have := of_decide_eq_true h
  unfold fullR
  rw [List.length_cons, List.length_map]; omega
theorem resN_len {t : Nat → NodeD} (hs : ∀ x, smallB (t x) = true) : ∀ k x, (resN t k x).length ≤ 61 * 2 ^ k := by
  intro k
  induction k with
  | zero =>
    intro x
    by_cases h : (t x).kind = 0
    · rw [resN_zero h]; simp
    · rw [resN_full h]; have := fullR_len (hs x) x; simpa using this
  | succ k ih =>
    intro x
    have e : 2 ^ (k + 1) = 2 * 2 ^ k := by rw [Nat.pow_succ]; omega
    have hp : 0 < 2 ^ k := Nat.pos_of_ne_zero (by simp)
    by_cases h : (t x).kind = 0
    · rw [resN_succ h, List.length_append]
      have h1 := ih (x - 2 ^ k)
      have h2 := ih (x + 2 ^ k)
      omega
    · rw [resN_full h]; have := fullR_len (hs x) x; omega
def ResP (t : List NodeD) (k : Nat) : Prop := ∀ (x : Nat) (v : Value) (w : World), TreeR w v t → IsLev x k → x + 2 ^ k ≤ t.length →
  Calls Tryz.prog 129 #[v, .int .i64 (x : Nat)] w fun e w' => ∃ v', e = .returned v' ∧ Own w' w.heap.size 3 v' (ivs .i64 (resN (nd t) k x)) ∧ Below w.heap.size w w'
theorem ivs_app (L M : List Int) : ivs .i64 (L ++ M) = ivs .i64 L ++ ivs .i64 M := by simp [ivs]
theorem fullR_step (x : Nat) (L : List Int) {r : Nat} (h : r < L.length) : ivs .i64 ((x : Int) :: (L.take (r + 1)).map fun u => 2 * u) = ivs .i64 ((x : Int) :: (L.take r).map fun u => 2 * u) ++ [.int .i64 (2 * L.getD r 0)] := by
  rw [List.take_succ_eq_append_getElem h, List.getD_eq_getElem?_getD, List.getElem?_eq_getElem h, List.map_append, ← List.cons_append]
  unfold ivs
  rw [List.map_append]; rfl
set_option maxRecDepth 100000 in
set_option maxHeartbeats 4000000 in
theorem res_full (v : Value) (t : List NodeD) (x : Nat) (w : World) (h : TreeR w v t) (hs : smallT t = true) (hok : TreeOk t) (hp : placedB t = true) (hxt : x < t.length) (hk : (nd t x).kind ≠ 0) :
    Calls Tryz.prog 129 #[v, .int .i64 (x : Nat)] w fun e w' => ∃ v', e = .returned v' ∧ Own w' w.heap.size 3 v' (ivs .i64 (fullR (nd t x) x)) ∧ Below w.heap.size w w' := by
  have hlen := smallT_len hs
  obtain ⟨a, c, rfl, hc, hc2⟩ := h.sl
  obtain ⟨b, off, cs, rfl, hbl, hnc, hra⟩ := h.node hxt
  have hkd0 := (hok.nd x).kind
  obtain ⟨kd, s, l1, l2, l3, l4, l5, l6, l7, l8, c1, c2, c3, c4, c5, e1, e2, e3, a1, a2, a3, a4, a5, b1, b2, b3, rfl, hkd, hl8, hlate⟩ := hnc.flat
  have hlb := late_bd (right_late (placed_at hp hxt).2)
  have hl60 : (nd t x).par.late.length ≤ 60 := by have := of_decide_eq_true (smallT_nd hs x); omega
  unfold fullR
  obtain ⟨L, hL⟩ : ∃ L, L = (nd t x).par.late := ⟨_, rfl⟩
  rw [← hL] at hlb hl8 hlate hl60 ⊢
  rw [← hkd] at hk hkd0
  have AT := fun (W : World) (hw : Below w.heap.size w W) (r : Nat) (hr : r < l8) => (hlate.below hw (Nat.le_refl _)).at3 (u := .int .i64 (L.getD r 0)) (r := r) (by rw [hl8] at hr; simp [ivs, List.getD_eq_getElem?_getD, hr])
  have BD := fun (r : Nat) (hr : r < l8) => (show 0 ≤ L.getD r 0 ∧ L.getD r 0 < 65536 from hlb _ (by rw [hl8] at hr; rw [List.getD_eq_getElem?_getD, List.getElem?_eq_getElem hr]; exact List.getElem_mem hr))
  have STEP := fun (r : Nat) (hr : r < l8) => fullR_step x L (r := r) (by omega)
  have FIN : ivs .i64 ((x : Int) :: (L.take l8).map fun u => 2 * u) = ivs .i64 ((x : Int) :: L.map fun u => 2 * u) := by rw [hl8, List.take_length]
  obtain ⟨G, hG⟩ : ∃ G : Nat → List Value, G = fun r => ivs .i64 ((x : Int) :: (L.take r).map fun u => 2 * u) := ⟨_, rfl⟩
  have hG' : ∀ r, ivs .i64 ((x : Int) :: (L.take r).map fun u => 2 * u) = G r := fun r => by rw [hG]
  have G0 : G 0 = [.int .i64 (x : Int)] := by rw [hG]; simp [ivs]
  have GL : ∀ r, r ≤ l8 → (G r).length ≤ 61 := fun r hr => by rw [hG]; simp [ivs]; omega
  simp only [hG'] at STEP FIN
  rw [← FIN]
  obtain ⟨U, hU⟩ : ∃ U : Nat → Int, U = fun r => L.getD r 0 := ⟨_, rfl⟩
  have hU' : ∀ r, L.getD r 0 = U r := fun r => by rw [hU]
  simp only [hU'] at AT BD STEP
  rw [← hl8] at hl60
  obtain ⟨n, hn⟩ : ∃ n, n = t.length := ⟨_, rfl⟩
  rw [← hn] at hc hlen hxt ⊢
  have HAT := Lib.hid AT
  have HBD := Lib.hid BD
  have HSTEP := Lib.hid STEP
  have HG0 := Lib.hid G0
  have HGL := Lib.hid GL
  have HRA := Lib.hid hra
  have hxI : (x : Int) < (n : Int) := by omega
  have hk1 : ((kd : Int) == 0) = false := by rw [beq_eq_false_iff_ne]; omega
  have hk2 : (kd : Int) ≠ 0 := by omega
  clear AT BD STEP G0 GL FIN hG hG' hU hU' hn hL hlb hl8 hlate h hs hok hp hnc hra hkd hk
  go_enter Tryz.func129, Tryz.ntmps129
  go_wp2_with (refine wpList_load_mid rfl 54 (.tmp 11) rfl b (off + x * 10) rfl [.int .u8 (kd : Nat), .slice a1 l1 c1, .slice a2 l2 c2, .slice a3 l3 c3, .int .u8 (s : Nat), .slice a4 l4 c4, .slice a5 l5 c5, .slice b1 l6 e1, .slice b2 l7 e2, .slice b3 l8 e3] _ HRA.out Tryz.underlying54 rfl node_info ?_)
  have HO0 := Lib.hid (show Own ((w.alloc (.cells #[.int .u8 (kd : Nat), .slice a1 l1 c1, .slice a2 l2 c2, .slice a3 l3 c3, .int .u8 (s : Nat), .slice a4 l4 c4, .slice a5 l5 c5, .slice b1 l6 e1, .slice b2 l7 e2, .slice b3 l8 e3] 54)).alloc (.cells #[.int .i64 (x : Int)] 3)) w.heap.size 3 (.slice (some ⟨w.heap.size + 1, 0, none⟩) 1 1) (G 0) from by
    rw [HG0.out]
    exact Own.full (B := w.heap.size) (cs := #[.int .i64 (x : Int)]) (by simp) (by omega) (by unfold maxLen; simp) rfl)
  have HB0 := Lib.hid (show Below w.heap.size w ((w.alloc (.cells #[.int .u8 (kd : Nat), .slice a1 l1 c1, .slice a2 l2 c2, .slice a3 l3 c3, .int .u8 (s : Nat), .slice a4 l4 c4, .slice a5 l5 c5, .slice b1 l6 e1, .slice b2 l7 e2, .slice b3 l8 e3] 54)).alloc (.cells #[.int .i64 (x : Int)] 3)) from ((Below.refl _ _).alloc (Nat.le_refl _) _).alloc (by simp) _)
  generalize hw2 : (w.alloc (.cells #[.int .u8 (kd : Nat), .slice a1 l1 c1, .slice a2 l2 c2, .slice a3 l3 c3, .int .u8 (s : Nat), .slice a4 l4 c4, .slice a5 l5 c5, .slice b1 l6 e1, .slice b2 l7 e2, .slice b3 l8 e3] 54)).alloc (.cells #[.int .i64 (x : Int)] 3) = w2 at HO0 HB0 ⊢
  clear hw2
  go_loopg [6, 41] l8 (fun q ov iv wr => ∃ r : Nat, r + q = l8 ∧ iv = .int .i64 (r : Nat) ∧ Own wr w.heap.size 3 ov (G r) ∧ Below w.heap.size w wr)
  case atStart => exact ⟨0, by omega, rfl, HO0.out, HB0.out⟩
  case round =>
    obtain ⟨r, hr, rfl, hown, hb⟩ := hrel
    have HR := Lib.hid hr
    have HO := Lib.hid hown
    have HB := Lib.hid hb
    by_cases hlt : r < l8
    · have hlt' : decide (r < l8) = true := decide_eq_true hlt
      have hltI : (r : Int) < (l8 : Int) := by omega
      obtain ⟨bl, ol, rfl, hbl2, cu⟩ := HAT.out wr hb r hlt
      obtain ⟨hu0, hu1⟩ := HBD.out r hlt
      have HS := Lib.hid (HSTEP.out r hlt)
      have HGR := Lib.hid (HGL.out r (by omega))
      obtain ⟨u, hu⟩ : ∃ u, u = U r := ⟨_, rfl⟩
      rw [← hu] at cu hu0 hu1 HS
      have hw : wrap64 (2 * u) = 2 * u := by unfold wrap64; omega
      obtain ⟨p1, p2, p3, rfl⟩ := slOf hown
      clear hr hown hb hu
      go_wp2_with (at_builtin; refine wpList_push rfl (.tmp 45) (.tmp 48) 50 rfl w.heap.size 3 _ 8 intsE _ _ rfl (HO.out.alloc _) ⟨wr.heap.size, 0, none⟩ (.int .i64 (2 * u)) rfl ?c1 rfl ?c2 ?c3 ?_)
      case c1 => exact cell_new rfl
      case c2 => have := HGR.out; omega
      case c3 => have := HB.out.size; simp; omega
      rintro v' w1 hown1 - hb1
      have HO1 := Lib.hid hown1
      have HB1 := Lib.hid ((HB.out.alloc HB.out.size (.cells #[.int .i64 (2 * u)] 3)).trans hb1)
      clear hown1 hb1
      go_wp2_with fail
      go_roundg (gk - 1)
      case measure => have := HR.out; omega
      case rel => exact ⟨r + 1, by have := HR.out; omega, by go_num, by rw [HS.out]; exact HO1.out, HB1.out⟩
    · obtain rfl : r = l8 := by omega
      have hlt' : decide (r < r) = false := decide_eq_false hlt
      clear hr hown hb hlt
      go_wp2_with fail
      go_ret
      exact ⟨_, rfl, HO.out, HB.out⟩
set_option maxRecDepth 100000 in
set_option maxHeartbeats 4000000 in
theorem res_zero (t : List NodeD) (hs : smallT t = true) (hok : TreeOk t) (hp : placedB t = true) : ResP t 0 := by
  intro x v w h hlev hx
  have hxt : x < t.length := by have : (2 : Nat) ^ 0 = 1 := rfl; omega
  by_cases hk : (nd t x).kind = 0
  · rw [resN_zero hk]
    have hev := lev_zero hlev
    have hlen := smallT_len hs
    obtain ⟨a, c, rfl, hc, hc2⟩ := h.sl
    obtain ⟨b, off, cs, rfl, hbl, hnc, hra⟩ := h.node hxt
    have hkd0 := (hok.nd x).kind
    obtain ⟨kd, s, l1, l2, l3, l4, l5, l6, l7, l8, c1, c2, c3, c4, c5, e1, e2, e3, a1, a2, a3, a4, a5, b1, b2, b3, rfl, hkd, hl8, hlate⟩ := hnc.flat
    rw [← hkd] at hk hkd0
    subst hk
    obtain ⟨n, hn⟩ : ∃ n, n = t.length := ⟨_, rfl⟩
    rw [← hn] at hc hlen hxt ⊢
    have HRA := Lib.hid hra
    have hxI : (x : Int) < (n : Int) := by omega
    have hm : (x : Int) % 2 = 0 := by omega
    clear hn hl8 hlate h hs hok hp hnc hra hkd hkd0 hlev hx hev
    go_enter Tryz.func129, Tryz.ntmps129
    go_wp2_with (refine wpList_load_mid rfl 54 (.tmp 11) rfl b (off + x * 10) rfl [.int .u8 0, .slice a1 l1 c1, .slice a2 l2 c2, .slice a3 l3 c3, .int .u8 (s : Nat), .slice a4 l4 c4, .slice a5 l5 c5, .slice b1 l6 e1, .slice b2 l7 e2, .slice b3 l8 e3] _ HRA.out Tryz.underlying54 rfl node_info ?_)
    go_ret
    exact ⟨_, rfl, Own.nil _ _ _, (Below.refl _ _).alloc (Nat.le_refl _) _⟩
  · rw [resN_full hk]
    exact res_full v t x w h hs hok hp hxt hk
set_option maxRecDepth 100000 in
set_option maxHeartbeats 4000000 in
theorem res_succ (t : List NodeD) (hs : smallT t = true) (hok : TreeOk t) (hp : placedB t = true) (k : Nat) (IH : ResP t k) : ResP t (k + 1) := by
  intro x v w h hlev hx
  have hpw : 2 ^ (k + 1) = 2 * 2 ^ k := by rw [Nat.pow_succ]; omega
  have hp1 : 0 < 2 ^ k := Nat.pos_of_ne_zero (by simp)
  have hxt : x < t.length := by omega
  by_cases hk : (nd t x).kind = 0
  · rw [resN_succ hk]
    have hod := lev_succ hlev
    have hlen := smallT_len hs
    obtain ⟨hkl, hkr, hl1', hl2', hkx⟩ := kids_lev (by omega) hlev
    have LF := fun (W : World) => wleft_any (x : Int) W
    have RT := fun (W : World) => wright_any (x : Int) W
    rw [hkl] at LF
    rw [hkr] at RT
    have R1 := fun (W : World) (hw : Below w.heap.size w W) => IH (x - 2 ^ k) v W (h.below hw (Nat.le_refl _)) hl1' (by omega)
    have R2 := fun (W : World) (hw : Below w.heap.size w W) => IH (x + 2 ^ k) v W (h.below hw (Nat.le_refl _)) hl2' (by omega)
    have n1 := resN_len (t := nd t) (smallT_nd hs) k (x - 2 ^ k)
    have n2 := resN_len (t := nd t) (smallT_nd hs) k (x + 2 ^ k)
    have one2 := ivs_one' (resN (nd t) k (x + 2 ^ k))
    rw [ivs_app]
    obtain ⟨L1, hL1⟩ : ∃ L, L = resN (nd t) k (x - 2 ^ k) := ⟨_, rfl⟩
    obtain ⟨L2, hL2⟩ : ∃ L, L = resN (nd t) k (x + 2 ^ k) := ⟨_, rfl⟩
    rw [← hL1] at R1 n1 ⊢
    rw [← hL2] at R2 n2 one2 ⊢
    have h40 : 2 ^ k ≤ 40 := by omega
    have hn1 : L1.length ≤ 3000 := by omega
    have hn2 : L2.length ≤ 3000 := by omega
    obtain ⟨a, c, rfl, hc, hc2⟩ := h.sl
    obtain ⟨b, off, cs, rfl, hbl, hnc, hra⟩ := h.node hxt
    have hkd0 := (hok.nd x).kind
    obtain ⟨kd, s, l1, l2, l3, l4, l5, l6, l7, l8, c1, c2, c3, c4, c5, e1, e2, e3, a1, a2, a3, a4, a5, b1, b2, b3, rfl, hkd, hl8, hlate⟩ := hnc.flat
    rw [← hkd] at hk hkd0
    subst hk
    obtain ⟨n, hn⟩ : ∃ n, n = t.length := ⟨_, rfl⟩
    rw [← hn] at R1 R2 hc hlen hxt ⊢
    obtain ⟨xl, hxl⟩ : ∃ y, y = x - 2 ^ k := ⟨_, rfl⟩
    obtain ⟨xr, hxr⟩ : ∃ y, y = x + 2 ^ k := ⟨_, rfl⟩
    rw [← hxl] at LF R1
    rw [← hxr] at RT R2
    have HLF := Lib.hid LF
    have HRT := Lib.hid RT
    have HR1 := Lib.hid R1
    have HR2 := Lib.hid R2
    have HN1 := Lib.hid hn1
    have HN2 := Lib.hid hn2
    have HONE := Lib.hid one2
    have HRA := Lib.hid hra
    have hxI : (x : Int) < (n : Int) := by omega
    have hm : (x : Int) % 2 = 1 := by omega
    clear hn hl8 hlate h hs hok hp hnc hra hkd hkd0 hlev hx hod LF RT R1 R2 hL1 hL2 n1 n2 one2 hn1 hn2 h40 hkl hkr hl1' hl2' hkx hxl hxr hpw hp1 IH
    go_enter Tryz.func129, Tryz.ntmps129
    go_wp2_with (refine wpList_load_mid rfl 54 (.tmp 11) rfl b (off + x * 10) rfl [.int .u8 0, .slice a1 l1 c1, .slice a2 l2 c2, .slice a3 l3 c3, .int .u8 (s : Nat), .slice a4 l4 c4, .slice a5 l5 c5, .slice b1 l6 e1, .slice b2 l7 e2, .slice b3 l8 e3] _ HRA.out Tryz.underlying54 rfl node_info ?_)
    refine (HLF.out _).mono ?_
    rintro e w' ⟨rfl, rfl⟩
    have HB0 := Lib.hid ((Below.refl w.heap.size w).alloc (Nat.le_refl _) (.cells #[.int .u8 0, .slice a1 l1 c1, .slice a2 l2 c2, .slice a3 l3 c3, .int .u8 (s : Nat), .slice a4 l4 c4, .slice a5 l5 c5, .slice b1 l6 e1, .slice b2 l7 e2, .slice b3 l8 e3] 54))
    go_wp2_with fail
    refine (HR1.out _ HB0.out).mono ?_
    rintro e w1 ⟨v1, rfl, hown1, hb1⟩
    have HO1 := Lib.hid (hown1.mono HB0.out.size)
    have HB1 := Lib.hid (HB0.out.trans (hb1.mono HB0.out.size))
    obtain ⟨p1, p2, p3, rfl⟩ := slOf hown1
    clear hown1 hb1
    go_wp2_with fail
    refine (HRT.out _).mono ?_
    rintro e w' ⟨rfl, rfl⟩
    go_wp2_with fail
    refine (HR2.out _ HB1.out).mono ?_
    rintro e w2 ⟨v2, rfl, hown2, hb2⟩
    have HO2 := Lib.hid hown2.rd
    have HO1' := Lib.hid (HO1.out.below hb2 (Nat.le_refl _))
    have HB2 := Lib.hid (HB1.out.trans (hb2.mono HB1.out.size))
    obtain ⟨q1, q2, q3, rfl⟩ := slOf hown2
    clear hown2 hb2
    go_wp2_with (at_builtin; refine wpList_app rfl (.tmp 29) (.tmp 33) 50 rfl w.heap.size 3 _ 8 intsE _ _ rfl HO1'.out _ (ivs .i64 L2) rfl HO2.out HONE.out ?c2 ?c3 ?_)
    case c2 => rw [ivs_len', ivs_len']; have := HN1.out; have := HN2.out; omega
    case c3 => exact HB2.out.size
    rintro v' w3 hown - hb
    have HO := Lib.hid hown
    have HB := Lib.hid (HB2.out.trans hb)
    clear hown hb
    go_wp2_with fail
    go_ret
    exact ⟨_, rfl, HO.out, HB.out⟩
  · rw [resN_full hk]
    exact res_full v t x w h hs hok hp hxt hk
theorem res_lev (t : List NodeD) (hs : smallT t = true) (hok : TreeOk t) (hp : placedB t = true) : ∀ k, ResP t k := by
  intro k
  induction k with
  | zero => exact res_zero t hs hok hp
  | succ k ih => exact res_succ t hs hok hp k ih
end Go.Proofs.YtngealmhgkoaiaaGreat
/- Walks: tree.Resolve, tree.Filtered. -/
namespace Go.Proofs.YtngealmhgkoaiaaGreat
open Go.RowKit WalkM WireM
set_option linter.unusedVariables false
theorem lev_inT {t : List NodeD} (hlen : t.length ≤ 100000) (hr : rightT t = true) {x : Nat} (hx : x < t.length) : IsLev x (lev x) ∧ x + 2 ^ lev x ≤ t.length := by
  have hln : leavesN t.length ≠ 0 := by
    rw [rightT, Bool.and_eq_true] at hr
    exact of_decide_eq_true hr.1
  obtain ⟨d, hd, hN, hl⟩ := leavesN_pos hln
  have e : 2 ^ (d + 1) = 2 * 2 ^ d := by rw [Nat.pow_succ]; omega
  exact ⟨lev_is (by omega), by have := under_in (x := x) (d := d) (by omega) hd; omega⟩
theorem right_placedT {t : List NodeD} (hr : rightT t = true) : placedB t = true := by
  rw [rightT, Bool.and_eq_true, Bool.and_eq_true] at hr
  exact hr.2.1
/-- what a node resolves to -/
def resX (t : List NodeD) (x : Nat) : List Int := resN (nd t) (lev x) x
theorem resolve_any (v : Value) (t : List NodeD) (x : Nat) (w : World) (h : TreeR w v t) (hs : smallT t = true) (hok : TreeOk t) (hr : rightT t = true) (hx : x < t.length) :
    Calls Tryz.prog 129 #[v, .int .i64 (x : Nat)] w fun e w' => ∃ v', e = .returned v' ∧ Own w' w.heap.size 3 v' (ivs .i64 (resX t x)) ∧ Below w.heap.size w w' := by
  have hl := lev_inT (by have := smallT_len hs; omega) hr hx
  exact res_lev t hs hok (right_placedT hr) (lev x) x v w h hl.1 hl.2
set_option maxRecDepth 100000 in
set_option maxHeartbeats 4000000 in
theorem tresolve_off (v : Value) (t : List NodeD) (x : Int) (w : World) (h : TreeR w v t) (hs : smallT t = true) (hok : TreeOk t) (hno : rightT t = false ∨ x < 0 ∨ (t.length : Int) ≤ x) :
    Calls Tryz.prog 151 #[v, .int .i64 x] w fun e w' => e = .returned (.slice none 0 0) ∧ Below w.heap.size w w' := by
  have TR := tright_any v t w h hs hok
  obtain ⟨a, c, rfl, hc, hc2⟩ := h.sl
  obtain ⟨n, hn⟩ : ∃ n, n = t.length := ⟨_, rfl⟩
  rw [← hn] at TR hno hc ⊢
  cases hr : rightT t with
  | false =>
    rw [hr] at TR
    have HT := Lib.hid TR
    clear TR h hs hok hr hn hno
    go_enter Tryz.func151, Tryz.ntmps151
    go_wp2_with fail
    refine (HT.out).mono ?_
    rintro e w1 ⟨rfl, hb⟩
    go_wp2_with fail
    go_ret
    exact ⟨rfl, hb⟩
  | true =>
    rw [hr] at TR
    have HT := Lib.hid TR
    have hno : x < 0 ∨ (n : Int) ≤ x := by
      rcases hno with h | h
      · rw [hr] at h; cases h
      · exact h
    clear TR h hs hok hr hn
    by_cases h0 : x < 0
    · have h0' : decide (x < 0) = true := decide_eq_true h0
      clear hno
      go_enter Tryz.func151, Tryz.ntmps151
      go_wp2_with fail
      refine (HT.out).mono ?_
      rintro e w1 ⟨rfl, hb⟩
      go_wp2_with fail
      go_ret
      exact ⟨rfl, hb⟩
    · have h0' : decide (x < 0) = false := decide_eq_false h0
      have h1' : decide (x ≥ (n : Int)) = true := decide_eq_true (by omega)
      have h2' : decide ((n : Int) ≤ x) = true := decide_eq_true (by omega)
      clear hno
      go_enter Tryz.func151, Tryz.ntmps151
      go_wp2_with fail
      refine (HT.out).mono ?_
      rintro e w1 ⟨rfl, hb⟩
      go_wp2_with fail
      go_ret
      exact ⟨rfl, hb⟩
set_option maxRecDepth 100000 in
set_option maxHeartbeats 4000000 in
theorem tresolve_any (v : Value) (t : List NodeD) (x : Nat) (w : World) (h : TreeR w v t) (hs : smallT t = true) (hok : TreeOk t) (hr : rightT t = true) (hx : x < t.length) :
    Calls Tryz.prog 151 #[v, .int .i64 (x : Nat)] w fun e w' => ∃ v', e = .returned v' ∧ Own w' w.heap.size 3 v' (ivs .i64 (resX t x)) ∧ Below w.heap.size w w' := by
  have TR := tright_any v t w h hs hok
  rw [hr] at TR
  have RS1 := fun (W : World) (hw : Below w.heap.size w W) => resolve_any v t x W (h.below hw (Nat.le_refl _)) hs hok hr hx
  obtain ⟨a, c, rfl, hc, hc2⟩ := h.sl
  obtain ⟨L, hL⟩ : ∃ L, L = resX t x := ⟨_, rfl⟩
  rw [← hL] at RS1 ⊢
  obtain ⟨n, hn⟩ : ∃ n, n = t.length := ⟨_, rfl⟩
  rw [← hn] at TR RS1 hx hc ⊢
  have HT := Lib.hid TR
  have HR := Lib.hid RS1
  have h0' : decide ((x : Int) < 0) = false := decide_eq_false (by omega)
  have h1' : decide ((x : Int) ≥ (n : Int)) = false := decide_eq_false (by omega)
  have h2' : decide ((n : Int) ≤ (x : Int)) = false := decide_eq_false (by omega)
  clear TR RS1 h hs hok hr hn hL
  go_enter Tryz.func151, Tryz.ntmps151
  go_wp2_with fail
  refine (HT.out).mono ?_
  rintro e w1 ⟨rfl, hb⟩
  have HB := Lib.hid hb
  clear hb
  go_wp2_with fail
  refine (HR.out w1 HB.out).mono ?_
  rintro e w2 ⟨v2, rfl, hown, hb⟩
  have HO := Lib.hid (hown.mono HB.out.size)
  have HB2 := Lib.hid (HB.out.trans (hb.mono HB.out.size))
  clear hown hb
  go_wp2_with fail
  go_ret
  exact ⟨_, rfl, HO.out, HB2.out⟩
/-- the sibling of a node on the way up from a leaf -/
def sibN (q d j : Nat) : Nat := (sibZ (anc q j : Nat) ((2 ^ d : Nat) : Int)).toNat
theorem sib_at {q d j : Nat} (hd : d ≤ 16) (hq : q + 1 < 2 ^ (d + 1)) (hj : j < d) : sibZ (anc q j : Nat) ((2 ^ d : Nat) : Int) = (sibN q d j : Int) ∧ IsLev (sibN q d j) j ∧ sibN q d j + 2 ^ j + 1 ≤ 2 ^ (d + 1) := by
  have h17 : 2 ^ (d + 1) ≤ 2 ^ 17 := Nat.pow_le_pow_right (by omega) (by omega)
  have e17 : (2 : Nat) ^ 17 = 131072 := rfl
  have hP := anc_le (x := q) (d := d) (j := j + 1) (by omega) (by omega)
  have hl := anc_lev q (j + 1)
  have hlv := lev_eq (by omega) hl
  have hu := under_in hP hd
  obtain ⟨hkl, hkr, k1, k2, hk⟩ := kids_lev (by omega) hl
  have e : 2 ^ (j + 1) = 2 * 2 ^ j := by rw [Nat.pow_succ]; omega
  have hp : 0 < 2 ^ j := Nat.pos_of_ne_zero (by simp)
  rw [hlv] at hu
  have hs : sibZ (anc q j : Nat) ((2 ^ d : Nat) : Int) = if ((anc q j : Nat) : Int) < (anc q (j + 1) : Nat) then ((anc q (j + 1) + 2 ^ j : Nat) : Int) else ((anc q (j + 1) - 2 ^ j : Nat) : Int) := by
    rw [sibZ, parZ_anc hd hq (by omega), nxt, if_pos hj, if_neg (by omega), hkl, hkr]
  unfold sibN
  rw [hs]
  split
  · rw [Int.toNat_natCast]; exact ⟨rfl, k2, by omega⟩
  · rw [Int.toNat_natCast]; exact ⟨rfl, k1, by omega⟩
/-- the filtered path of a leaf -/
def filN (t : List NodeD) (q d r : Nat) : List Int := ((List.range r).filter fun j => decide (resN (nd t) j (sibN q d j) ≠ [])).map fun j => ((anc q (j + 1) : Nat) : Int)
theorem filN_yes {t : List NodeD} {q d r : Nat} (h : resN (nd t) r (sibN q d r) ≠ []) : filN t q d (r + 1) = filN t q d r ++ [((anc q (r + 1) : Nat) : Int)] := by
  unfold filN
  rw [List.range_succ, List.filter_append, List.map_append]
  congr 1
  simp [h]
theorem filN_no {t : List NodeD} {q d r : Nat} (h : resN (nd t) r (sibN q d r) = []) : filN t q d (r + 1) = filN t q d r := by
  unfold filN
  rw [List.range_succ, List.filter_append, List.map_append, List.filter_cons_of_neg (by simp [h])]; simp
theorem filN_len (t : List NodeD) (q d r : Nat) : (filN t q d r).length ≤ r := by
  unfold filN
  rw [List.length_map]
  exact Nat.le_trans (List.length_filter_le _ _) (by simp)
set_option maxRecDepth 100000 in
set_option maxHeartbeats 8000000 in
theorem tfiltered_any (v : Value) (t : List NodeD) (i d : Nat) (w : World) (h : TreeR w v t) (hs : smallT t = true) (hok : TreeOk t) (hr : rightT t = true) (hd : d ≤ 16) (hl : t.length + 1 = 2 * 2 ^ d) (hi : i < 2 ^ d) :
    Calls Tryz.prog 66 #[v, .int .i64 (i : Nat)] w fun e w' => ∃ v', e = .returned v' ∧ Own w' w.heap.size 3 v' (ivs .i64 (filN t (2 * i) d d)) ∧ Below w.heap.size w w' := by
  have hlen := smallT_len hs
  have e2 : 2 ^ (d + 1) = 2 * 2 ^ d := by rw [Nat.pow_succ]; omega
  obtain ⟨q, hqd⟩ : ∃ q, q = 2 * i := ⟨_, rfl⟩
  rw [← hqd]
  have hq : q + 1 < 2 ^ (d + 1) := by omega
  have hev : lev q = 0 := lev_even (by omega) (by omega)
  have hN40 : 2 ^ d ≤ 40 := by omega
  have TR := fun (W : World) (hw : Below w.heap.size w W) => tright_any v t W (h.below hw (Nat.le_refl _)) hs hok
  rw [hr] at TR
  have CP := fun (W : World) => copath_any (q : Int) ((2 ^ d : Nat) : Int) W (by omega) (by omega)
  rw [copL_of hd hq, hev, Nat.sub_zero] at CP
  have PA := fun (W : World) => path_any q d hd hq W
  rw [hev, Nat.sub_zero] at PA
  have hp := right_placedT hr
  have RSV := fun (j : Nat) (hj : j < d) (W : World) (hw : Below w.heap.size w W) => res_lev t hs hok hp j (sibN q d j) v W (h.below hw (Nat.le_refl _)) (sib_at hd hq hj).2.1 (by have := (sib_at hd hq hj).2.2; omega)
  have CA := fun (j : Nat) (hj : j < d) => (show (ivs .i64 (cops q ((2 ^ d : Nat) : Int) 0 d))[j]? = some (.int .i64 (sibN q d j : Nat)) from by
    rw [← (sib_at hd hq hj).1]; simp [ivs, cops, hj])
  have CU := fun (j : Nat) (hj : j < d) => (show (nvs (ups q 0 d))[j]? = some (.int .i64 (anc q (j + 1) : Nat)) from by
    have := ups_at q d 0 j hj
    simp only [Nat.zero_add] at this
    simp [nvs, ivs, this])
  have hd6 : d ≤ 16 := hd
  obtain ⟨ta, c, rfl, hc, hc2⟩ := h.sl
  have LV := fun (W : World) => tleaves_any ta t.length c W (by omega)
  rw [leavesN_pow hd hl] at LV
  obtain ⟨CL, hCL⟩ : ∃ C, C = cops q ((2 ^ d : Nat) : Int) 0 d := ⟨_, rfl⟩
  have hCLl : CL.length = d := by rw [hCL, cops_len]
  rw [← hCL] at CP CA
  obtain ⟨UL, hUL⟩ : ∃ U, U = ups q 0 d := ⟨_, rfl⟩
  have hULl : UL.length = d := by rw [hUL, ups_len]
  rw [← hUL] at PA CU
  obtain ⟨N, hNd⟩ : ∃ N, N = 2 ^ d := ⟨_, rfl⟩
  rw [← hNd] at CP PA LV hi hN40 hl
  obtain ⟨n, hn⟩ : ∃ n, n = t.length := ⟨_, rfl⟩
  rw [← hn] at TR RSV LV hc hlen hl ⊢
  have hqi : (q : Int) = 2 * (i : Int) := by omega
  rw [hqi] at CP PA
  have HTR := Lib.hid TR
  have HCP := Lib.hid CP
  have HPA := Lib.hid PA
  have HRS := Lib.hid RSV
  have HLV := Lib.hid LV
  have HCA := Lib.hid CA
  have HCU := Lib.hid CU
  have h0' : decide ((i : Int) < 0) = false := decide_eq_false (by omega)
  have h1' : decide ((i : Int) ≥ (N : Int)) = false := decide_eq_false (by omega)
  have h2' : decide ((N : Int) ≤ (i : Int)) = false := decide_eq_false (by omega)
  have hw : wrap64 (2 * (i : Int)) = 2 * (i : Int) := by unfold wrap64; omega
  clear hqi
  clear hl
  clear TR CP PA RSV LV CA CU hp hs hok hr hd hn hNd hCL hUL hev hq hqd e2 h
  go_enter Tryz.func66, Tryz.ntmps66
  go_wp2_with fail
  refine (HLV.out w).mono ?_
  rintro e w' ⟨rfl, rfl⟩
  go_wp2_with fail
  refine (HTR.out w' (Below.refl _ _)).mono ?_
  rintro e w1 ⟨rfl, hb⟩
  have HB1 := Lib.hid hb
  clear hb
  go_wp2_with fail
  refine (HCP.out w1).mono ?_
  rintro e w2 ⟨va, rfl, hown, hb⟩
  have HB2 := Lib.hid (HB1.out.trans (hb.mono HB1.out.size))
  have hrd := hown.rd
  obtain ⟨aa, ca, rfl⟩ : ∃ a c, va = .slice a d c := by obtain ⟨a, c, e, _⟩ := hrd; rw [ivs_len', hCLl] at e; exact ⟨a, c, e⟩
  have HAW := Lib.hid hrd
  clear hown hb hrd
  go_wp2_with fail
  refine (HPA.out w2).mono ?_
  rintro e w3 ⟨vp, rfl, hown, hb⟩
  have HB3 := Lib.hid (HB2.out.trans (hb.mono HB2.out.size))
  have HAW3 := Lib.hid (HAW.out.below hb (Nat.le_refl _))
  have hrd := hown.rd
  obtain ⟨ap, cp, rfl⟩ : ∃ a c, vp = .slice a d c := by obtain ⟨a, c, e, _⟩ := hrd; rw [nvs_len, hULl] at e; exact ⟨a, c, e⟩
  have HUP := Lib.hid hrd
  clear hown hb hrd HAW
  go_wp2_with fail
  go_loopg [6, 33] d (fun k ov iv wr => ∃ r : Nat, r + k = d ∧ iv = .int .i64 (r : Nat) ∧ Own wr w3.heap.size 3 ov (ivs .i64 (filN t q d r)) ∧ Below w3.heap.size w3 wr)
  case atStart => exact ⟨0, by omega, rfl, Own.nil _ _ _, Below.refl _ _⟩
  case round =>
    obtain ⟨r, hr, rfl, hown, hb⟩ := hrel
    have HR := Lib.hid hr
    have HO := Lib.hid hown
    have HB := Lib.hid (HB3.out.trans (hb.mono HB3.out.size))
    have HB3r := Lib.hid hb
    by_cases hlt : r < d
    · have hlt' : decide (r < d) = true := decide_eq_true hlt
      have hltI : (r : Int) < (d : Int) := by omega
      obtain ⟨bu, ou, rfl, hbu, cu⟩ := (HUP.out.below hb (Nat.le_refl _)).at3 (HCU.out r hlt)
      obtain ⟨ba, oa, rfl, hba, ca'⟩ := (HAW3.out.below hb (Nat.le_refl _)).at3 (HCA.out r hlt)
      have R1 := HRS.out r hlt wr HB.out
      have hfl := filN_len t q d r
      have HY := Lib.hid (fun (h : resN (nd t) r (sibN q d r) ≠ []) => filN_yes (t := t) (q := q) (d := d) (r := r) h)
      have HNO := Lib.hid (fun (h : resN (nd t) r (sibN q d r) = []) => filN_no (t := t) (q := q) (d := d) (r := r) h)
      obtain ⟨L, hL⟩ : ∃ L, L = resN (nd t) r (sibN q d r) := ⟨_, rfl⟩
      rw [← hL] at R1 HY HNO
      obtain ⟨s, hsb⟩ : ∃ s, s = sibN q d r := ⟨_, rfl⟩
      rw [← hsb] at R1 ca'
      obtain ⟨p, hpa⟩ : ∃ p, p = anc q (r + 1) := ⟨_, rfl⟩
      rw [← hpa] at cu HY
      have HR1 := Lib.hid R1
      have HFL := Lib.hid hfl
      obtain ⟨p1, p2, p3, rfl⟩ := slOf hown
      clear R1 hr hown hb hL hsb hpa hfl
      go_wp2_with fail
      refine (HR1.out).mono ?_
      rintro e w4 ⟨vr, rfl, hownr, hb4⟩
      obtain ⟨ar, cr, rfl⟩ : ∃ a c, vr = .slice a L.length c := by obtain ⟨a, c, e, _⟩ := hownr.rd; rw [ivs_len'] at e; exact ⟨a, c, e⟩
      have HB4 := Lib.hid (HB.out.trans (hb4.mono HB.out.size))
      have HB34 := Lib.hid (HB3r.out.trans (hb4.mono HB3r.out.size))
      have HO4 := Lib.hid (HO.out.below hb4 (Nat.le_refl _))
      clear hownr hb4
      by_cases hne : L = []
      · have HE := Lib.hid (HNO.out hne)
        subst hne
        go_wp2_with fail
        go_roundg (gk - 1)
        case measure => have := HR.out; omega
        case rel => exact ⟨r + 1, by have := HR.out; omega, by go_num, by rw [HE.out]; exact HO4.out, HB34.out⟩
      · have HE := Lib.hid (HY.out hne)
        have hl1 : 0 < L.length := List.length_pos_iff.2 hne
        obtain ⟨kl, hkl⟩ : ∃ k, k = L.length := ⟨_, rfl⟩
        rw [← hkl] at hl1 ⊢
        have hl1' : decide ((kl : Int) > 0) = true := decide_eq_true (by omega)
        have hl2' : decide ((0 : Int) < (kl : Int)) = true := decide_eq_true (by omega)
        clear hkl hne
        go_wp2_with (at_builtin; refine wpList_push rfl (.tmp 46) (.tmp 48) 50 rfl w3.heap.size 3 _ 8 intsE _ _ rfl (HO4.out.alloc _) ⟨w4.heap.size, 0, none⟩ (.int .i64 (p : Nat)) rfl ?c1 rfl ?c2 ?c3 ?_)
        case c1 => exact cell_new rfl
        case c2 => rw [ivs_len']; have := HFL.out; omega
        case c3 => have := HB34.out.size; simp; omega
        rintro v5 w5 hown5 - hb5
        have HO5 := Lib.hid hown5
        have HB5 := Lib.hid ((HB34.out.alloc HB34.out.size (.cells #[.int .i64 (p : Nat)] 3)).trans hb5)
        clear hown5 hb5
        go_wp2_with fail
        go_roundg (gk - 1)
        case measure => have := HR.out; omega
        case rel =>
          refine ⟨r + 1, by have := HR.out; omega, by go_num, ?_, ?_⟩
          · rw [HE.out]
            have := HO5.out
            simpa [ivs] using this
          · exact HB5.out
    · obtain rfl : r = d := by omega
      have hlt' : decide (r < r) = false := decide_eq_false hlt
      clear hr hown hb hlt
      go_wp2_with fail
      go_ret
      exact ⟨_, rfl, HO.out.mono HB3.out.size, HB.out⟩
end Go.Proofs.YtngealmhgkoaiaaGreat
