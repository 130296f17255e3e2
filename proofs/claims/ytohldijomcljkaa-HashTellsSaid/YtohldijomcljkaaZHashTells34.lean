/- Walks: hash.All, hash.Tree. -/
import Derived.Test.YtohldijomcljkaaZHashTells33
import Derived.Laws.MakeOwn
import Derived.Test.YtohldijomcljkaaZHashTells30
import Derived.Test.YtohldijomcljkaaZHashTells19
namespace Go.Proofs.Ytohldijomcljkaa
open Go.RowKit WalkM ShaM WireM
set_option linter.unusedVariables false
/-- a node's hash -/
def hashX (T : Nat → NodeD) (y : Nat) : List Nat := hashN T (lev y) y
theorem hashX_len (T : Nat → NodeD) (y : Nat) : (hashX T y).length = 32 := hashN_len _ _ _
theorem hashX_lt (T : Nat → NodeD) (y : Nat) : ∀ x ∈ hashX T y, x < 256 := hashN_lt _ _ _
theorem fill_any (t : List NodeD) (hs : smallT t = true) (hok : TreeOk t) (hp : placedB t = true) : ∀ k, FillP t k := by
  intro k
  induction k with
  | zero => exact fill_zero t hs hok hp
  | succ k ih => exact fill_succ t hs hok hp k ih
theorem AllR.congr {w : World} {g n : Nat} {F F' : Nat → Option (List Nat)} (h : AllR w g n F) (e : ∀ y, y < n → F' y = F y) : AllR w g n F' := by
  obtain ⟨cs, h1, h2, h3⟩ := h
  refine ⟨cs, h1, h2, fun y hy => ?_⟩
  obtain ⟨u, k1, k2⟩ := h3 y hy
  exact ⟨u, k1, fun L hL => k2 L (by rw [← e y hy]; exact hL)⟩
theorem make_rows {n : Nat} (hn : n ≤ 4000000) : ∀ w : World, (Instr.makeSlice 25 (.int .i64 (n : Nat)) (.int .i64 (n : Nat))).run Try.prog w = .ok (.slice (some ⟨w.heap.size, 0, none⟩) n n) (w.alloc (.cells (madeCells (Value.slice none 0 0).cells (n * 1)) 29)) := by
  intro w
  obtain ⟨i, hi, hz, hsz, hby⟩ : ∃ i, Try.prog.info? 29 = some i ∧ i.zero = some (.slice none 0 0) ∧ i.size = 1 ∧ i.bytes = 24 := info_parts (by kernel_rfl)
  have hr := run_make (P := Try.prog) w 25 29 i (.slice none 0 0) Try.underlying25 hi hz .i64 .i64 n n (by omega) (by omega) (by rw [hby]; omega) (by omega)
  simp only [Int.toNat_natCast, hsz] at hr
  exact hr
theorem made_rows (w : World) (n : Nat) : AllR (w.alloc (.cells (madeCells (Value.slice none 0 0).cells (n * 1)) 29)) w.heap.size n (fun _ => none) := by
  refine ⟨_, Blk.new w _ _, by simp [madeCells], fun y hy => ?_⟩
  exact ⟨_, Array.getElem?_eq_getElem (by simpa [madeCells] using hy), fun L hL => by cases hL⟩
set_option maxRecDepth 100000 in
set_option maxHeartbeats 4000000 in
theorem hall_no (v : Value) (t : List NodeD) (w : World) (h : TreeR w v t) (hs : smallT t = true) (hok : TreeOk t) (hr : rightT t = false) :
    Calls Try.prog 16 #[v] w fun e w' => e = .returned (.tuple #[.slice none 0 0, .int .u8 12]) ∧ Below w.heap.size w w' := by
  have TR := tright_any v t w h hs hok
  rw [hr] at TR
  have HT := Lib.hid TR
  obtain ⟨a, n, c, rfl⟩ : ∃ a n c, v = .slice a n c := by obtain ⟨a, c, e, _⟩ := h.sl; exact ⟨_, _, _, e⟩
  clear TR h hs hok hr
  go_enter Try.func16, Try.ntmps16
  go_wp2_with fail
  refine (HT.out).mono ?_
  rintro e w1 ⟨rfl, hb⟩
  go_wp2_with fail
  go_ret2
  exact ⟨rfl, hb⟩
set_option maxRecDepth 100000 in
set_option maxHeartbeats 4000000 in
theorem hall_yes (v : Value) (t : List NodeD) (w : World) (h : TreeR w v t) (hs : smallT t = true) (hok : TreeOk t) (hr : rightT t = true) :
    Calls Try.prog 16 #[v] w fun e w' => ∃ g, w.heap.size ≤ g ∧ e = .returned (.tuple #[.slice (some ⟨g, 0, none⟩) t.length t.length, .int .u8 0]) ∧ AllR w' g t.length (fun y => some (hashX (nd t) y)) ∧ Below w.heap.size w w' := by
  have TR := tright_any v t w h hs hok
  rw [hr] at TR
  have HT := Lib.hid TR
  obtain ⟨hln, hp⟩ : leavesN t.length ≠ 0 ∧ placedB t = true := by
    rw [rightT, Bool.and_eq_true, Bool.and_eq_true] at hr
    exact ⟨of_decide_eq_true hr.1, hr.2.1⟩
  obtain ⟨d, hd, hN, hl⟩ := leavesN_pos hln
  have hlen := smallT_len hs
  have hp1 : 0 < 2 ^ d := Nat.pos_of_ne_zero (by simp)
  have hrl : IsLev (2 ^ d - 1) d := by
    unfold IsLev
    exact Nat.mod_eq_of_lt (by have : 2 ^ (d + 1) = 2 * 2 ^ d := by rw [Nat.pow_succ]; omega
                               omega)
  have FL := fun (W : World) (g : Nat) (hw : Below w.heap.size w W) (hg : w.heap.size ≤ g) (ha : AllR W g t.length (fun _ => none)) => fill_any t hs hok hp d (2 ^ d - 1) g v w W _ h hw hg ha hrl (by omega)
  have CG := fun (W : World) (g : Nat) (ha : AllR W g t.length (fillF (nd t) (fun _ => none) d (2 ^ d - 1))) => ha.congr (F' := fun y => some (hashX (nd t) y)) (fun y hy => by
    unfold fillF hashX
    rw [if_pos ⟨by omega, by omega⟩])
  obtain ⟨a, c, rfl, hc, hc2⟩ := h.sl
  obtain ⟨n, hn⟩ : ∃ n, n = t.length := ⟨_, rfl⟩
  rw [← hn] at hl hlen hc FL CG HT ⊢
  obtain ⟨x, hx⟩ : ∃ x, x = 2 ^ d - 1 := ⟨_, rfl⟩
  rw [← hx] at FL CG
  have hq : (n : Int) / 2 = (x : Int) := by omega
  have HMK := make_rows (n := n) (by omega)
  have HMD := Lib.hid (fun (W : World) => made_rows W n)
  obtain ⟨Z, hZ⟩ : ∃ Z, Z = madeCells (Value.slice none 0 0).cells (n * 1) := ⟨_, rfl⟩
  rw [← hZ] at HMK HMD
  have HFL := Lib.hid FL
  have HCG := Lib.hid CG
  clear hx hZ TR h hs hok hr hln hp hN hl hrl FL CG hn hp1
  go_enter Try.func16, Try.ntmps16
  go_wp2_with fail
  refine (HT.out).mono ?_
  rintro e w1 ⟨rfl, hb⟩
  have HB := Lib.hid hb
  have hs1 := hb.size
  clear hb
  go_wp2_with fail
  refine (HFL.out _ _ (HB.out.alloc HB.out.size _) hs1 (HMD.out w1)).mono ?_
  rintro e w2 ⟨v2, rfl, hr2, ha2, hall2, ho2⟩
  have HA := Lib.hid (HCG.out _ _ hall2)
  have HB2 := Lib.hid ((HB.out.alloc HB.out.size (.cells Z 29)).trans (ho2.1.mono hs1))
  clear hr2 ha2 hall2 ho2
  go_wp2_with fail
  go_ret2
  exact ⟨_, hs1, rfl, HA.out, HB2.out⟩
set_option maxRecDepth 100000 in
set_option maxHeartbeats 4000000 in
theorem htree_no (v : Value) (t : List NodeD) (w : World) (h : TreeR w v t) (hs : smallT t = true) (hok : TreeOk t) (hr : rightT t = false) :
    Calls Try.prog 17 #[v] w fun e w' => e = .returned (.tuple #[.slice none 0 0, .int .u8 12]) ∧ Below w.heap.size w w' := by
  have HA := Lib.hid (hall_no v t w h hs hok hr)
  obtain ⟨a, n, c, rfl⟩ : ∃ a n c, v = .slice a n c := by obtain ⟨a, c, e, _⟩ := h.sl; exact ⟨_, _, _, e⟩
  clear h hs hok hr
  go_enter Try.func17, Try.ntmps17
  go_wp2_with fail
  refine (HA.out).mono ?_
  rintro e w1 ⟨rfl, hb⟩
  go_wp2_with fail
  go_ret2
  exact ⟨rfl, hb⟩
set_option maxRecDepth 100000 in
set_option maxHeartbeats 4000000 in
theorem htree_yes (v : Value) (t : List NodeD) (w : World) (h : TreeR w v t) (hs : smallT t = true) (hok : TreeOk t) (hr : rightT t = true) :
    Calls Try.prog 17 #[v] w fun e w' => ∃ u, e = .returned (.tuple #[u, .int .u8 0]) ∧ Rd w' u (bvs (hashX (nd t) (t.length / 2))) ∧ Below w.heap.size w w' := by
  have HA := Lib.hid (hall_yes v t w h hs hok hr)
  have hln : leavesN t.length ≠ 0 := by
    rw [rightT, Bool.and_eq_true] at hr
    exact of_decide_eq_true hr.1
  obtain ⟨d, hd, hN, hl⟩ := leavesN_pos hln
  have hp1 : 0 < 2 ^ d := Nat.pos_of_ne_zero (by simp)
  have hlen := smallT_len hs
  obtain ⟨a, c, rfl, hc, hc2⟩ := h.sl
  obtain ⟨n, hn⟩ : ∃ n, n = t.length := ⟨_, rfl⟩
  rw [← hn] at hl HA hc hlen ⊢
  obtain ⟨x, hx⟩ : ∃ x, x = n / 2 := ⟨_, rfl⟩
  have hq : (n : Int) / 2 = (x : Int) := by omega
  have hxn : x < n := by omega
  have hxI : (x : Int) < (n : Int) := by omega
  rw [← hx]
  clear hx hN hl hp1 hln h hs hok hr hn
  go_enter Try.func17, Try.ntmps17
  go_wp2_with fail
  refine (HA.out).mono ?_
  rintro e w1 ⟨g, hg, rfl, hall, hb⟩
  obtain ⟨u, hc1, hru, _⟩ := hall.row hxn rfl
  have HR := Lib.hid hru
  have HB := Lib.hid hb
  clear hru hb hall
  go_wp2_with fail
  go_ret2
  exact ⟨_, rfl, HR.out, HB.out⟩
end Go.Proofs.Ytohldijomcljkaa
/- Plain: from the root down, one digest, one text: two trees of one hash are the same, or two unlike texts collide. -/
namespace Go.Proofs.Ytohldijomcljkaa
open Go.RowKit WalkM ShaM WireM
set_option linter.unusedVariables false
theorem vecB_inj {v v' r r' : List Nat} (hv : v.length < 1073741824) (hv' : v'.length < 1073741824) (h : vecB v ++ r = vecB v' ++ r') : v = v' ∧ r = r' := by
  have a := vecF_put hv r
  rw [h, vecF_put hv' r'] at a
  simp only [Prod.mk.injEq, and_true] at a
  exact ⟨a.1.symm, a.2.symm⟩
theorem beN_inj {k a b : Nat} (ha : a < 256 ^ k) (hb : b < 256 ^ k) (h : beN k a = beN k b) : a = b := by
  have e := congrArg numV h
  rw [numV_beN, numV_beN, Nat.mod_eq_of_lt ha, Nat.mod_eq_of_lt hb] at e
  exact e
theorem app_inj {a b c d : List Nat} (hl : a.length = b.length) (h : a ++ c = b ++ d) : a = b ∧ c = d := List.append_inj h hl
theorem lateL_inj : ∀ {L M : List Int}, (∀ u ∈ L, 0 ≤ u ∧ u < 65536) → (∀ u ∈ M, 0 ≤ u ∧ u < 65536) → lateL L = lateL M → L = M := by
  intro L
  induction L with
  | nil =>
    intro M _ _ h
    have := congrArg List.length h
    rw [lateL_len, lateL_len] at this
    exact (List.eq_nil_of_length_eq_zero (by simp at this; omega)).symm
  | cons x L ih =>
    intro M hL hM h
    cases M with
    | nil =>
      have := congrArg List.length h
      rw [lateL_len, lateL_len] at this
      simp at this
    | cons y M =>
      have h2 : beN 4 x.toNat ++ lateL L = beN 4 y.toNat ++ lateL M := by simpa [lateL] using h
      obtain ⟨h3, h4⟩ := app_inj (by rw [beN_len, beN_len]) h2
      have hx := hL x (by simp)
      have hy := hM y (by simp)
      have e := beN_inj (k := 4) (by omega) (by omega) h3
      have e2 : x = y := by omega
      rw [e2, ih (fun u hu => hL u (by simp [hu])) (fun u hu => hM u (by simp [hu])) h4]
/-- as bytes tell it, a node that may be and what follows -/
theorem nodeB_inj {d e : NodeD} {r s : List Nat} (hd : rightB d = true) (he : rightB e = true) (hds : smallB d = true) (hes : smallB e = true) (h : nodeB d ++ r = nodeB e ++ s) : d = e ∧ r = s := by
  obtain ⟨kd, ⟨b1, b2, b3, sr, b4, b5⟩, ⟨p1, p2, p3⟩⟩ := d
  obtain ⟨kd', ⟨b1', b2', b3', sr', b4', b5'⟩, ⟨p1', p2', p3'⟩⟩ := e
  have hs1 := of_decide_eq_true hds
  have hs2 := of_decide_eq_true hes
  simp only at hs1 hs2
  have k1 := right_kind hd
  have k2 := right_kind he
  have l1 := late_bd (right_late hd)
  have l2 := late_bd (right_late he)
  simp only at k1 k2 l1 l2
  have nl : ∀ {n1 n2 n3 s n4 n5 : Nat}, nlB n1 n2 n3 s n4 n5 = true → s = 0 ∧ n1 = 0 ∧ n2 = 0 ∧ n3 = 0 ∧ n4 = 0 ∧ n5 = 0 := by
    intro n1 n2 n3 s n4 n5 h
    have := of_decide_eq_true h
    omega
  have np : ∀ {n1 n2 n3 : Nat}, npB n1 n2 n3 = true → n1 = 0 ∧ n2 = 0 ∧ n3 = 0 := by
    intro n1 n2 n3 h
    have := of_decide_eq_true h
    omega
  have z : ∀ {l : List Nat}, l.length = 0 → l = [] := fun h => List.eq_nil_of_length_eq_zero h
  have zi : ∀ {l : List Int}, l.length = 0 → l = [] := fun h => List.eq_nil_of_length_eq_zero h
  have hk : kd = kd' := by
    have h0 := congrArg List.head? h
    rcases k1 with rfl | rfl | rfl <;> rcases k2 with rfl | rfl | rfl <;> first | rfl | (simp [nodeB] at h0)
  subst hk
  rcases k1 with rfl | rfl | rfl
  · simp only [rightB, if_pos, Bool.and_eq_true] at hd he
    obtain ⟨rfl, y1, y2, y3, y4, y5⟩ := nl hd.1
    obtain ⟨rfl, z1, z2, z3, z4, z5⟩ := nl he.1
    obtain ⟨w1, w2, w3⟩ := np hd.2
    obtain ⟨v1, v2, v3⟩ := np he.2
    have a1 := z y1; have a2 := z y2; have a3 := z y3; have a4 := z y4; have a5 := z y5; have a6 := z w1; have a7 := z w2; have a8 := zi w3
    have c1 := z z1; have c2 := z z2; have c3 := z z3; have c4 := z z4; have c5 := z z5; have c6 := z v1; have c7 := z v2; have c8 := zi v3
    subst a1 a2 a3 a4 a5 a6 a7 a8 c1 c2 c3 c4 c5 c6 c7 c8
    refine ⟨rfl, ?_⟩
    simpa [nodeB] using h
  · simp only [rightB, Nat.one_ne_zero, if_false, if_true, Bool.and_eq_true] at hd he
    obtain ⟨w1, w2, w3⟩ := np hd.2
    obtain ⟨v1, v2, v3⟩ := np he.2
    have a6 := z w1; have a7 := z w2; have a8 := zi w3
    have c6 := z v1; have c7 := z v2; have c8 := zi v3
    subst a6 a7 a8 c6 c7 c8
    have r1 := of_decide_eq_true hd.1
    have r2 := of_decide_eq_true he.1
    have h2 : vecB b1 ++ (vecB b2 ++ (vecB b3 ++ (sr :: ((if sr = 3 then vecB b4 else []) ++ (vecB b5 ++ r))))) = vecB b1' ++ (vecB b2' ++ (vecB b3' ++ (sr' :: ((if sr' = 3 then vecB b4' else []) ++ (vecB b5' ++ s))))) := by
      simpa [nodeB, unsB_eq, List.append_assoc] using h
    obtain ⟨rfl, h3⟩ := vecB_inj (by omega) (by omega) h2
    obtain ⟨rfl, h4⟩ := vecB_inj (by omega) (by omega) h3
    obtain ⟨rfl, h5⟩ := vecB_inj (by omega) (by omega) h4
    obtain ⟨rfl, h6⟩ := List.cons.inj h5
    have h7 : b4 = b4' ∧ vecB b5 ++ r = vecB b5' ++ s := by
      by_cases h3 : sr = 3
      · rw [if_pos h3, if_pos h3] at h6
        exact vecB_inj (by omega) (by omega) h6
      · rw [if_neg h3, if_neg h3] at h6
        have q1 : b4.length = 0 := by omega
        have q2 : b4'.length = 0 := by omega
        exact ⟨by rw [z q1, z q2], h6⟩
    obtain ⟨rfl, h8⟩ := h7
    obtain ⟨rfl, h9⟩ := vecB_inj (by omega) (by omega) h8
    exact ⟨rfl, h9⟩
  · have e2 : ¬ (2 = 0) := by omega
    have e21 : ¬ (2 = 1) := by omega
    simp only [rightB, if_neg e2, if_neg e21, if_true, Bool.and_eq_true] at hd he
    obtain ⟨rfl, y1, y2, y3, y4, y5⟩ := nl hd.1
    obtain ⟨rfl, z1, z2, z3, z4, z5⟩ := nl he.1
    have a1 := z y1; have a2 := z y2; have a3 := z y3; have a4 := z y4; have a5 := z y5
    have c1 := z z1; have c2 := z z2; have c3 := z z3; have c4 := z z4; have c5 := z z5
    subst a1 a2 a3 a4 a5 c1 c2 c3 c4 c5
    have h2 : vecB p1 ++ (vecB p2 ++ (vecB (lateL p3) ++ r)) = vecB p1' ++ (vecB p2' ++ (vecB (lateL p3') ++ s)) := by
      simpa [nodeB, parB, List.append_assoc] using h
    obtain ⟨rfl, h3⟩ := vecB_inj (by omega) (by omega) h2
    obtain ⟨rfl, h4⟩ := vecB_inj (by omega) (by omega) h3
    obtain ⟨h5, h6⟩ := vecB_inj (by rw [lateL_len]; omega) (by rw [lateL_len]; omega) h4
    rw [lateL_inj l1 l2 h5]
    exact ⟨rfl, h6⟩
/-- no two unlike texts have one digest -/
def NoColl (T U : Nat → NodeD) (n m : Nat) : Prop := ∀ x y, x < n → y < m → shaF (textN T (lev x) x) = shaF (textN U (lev y) y) → textN T (lev x) x = textN U (lev y) y
/-- beneath two nodes of one hash all is the same -/
theorem tells {T U : Nat → NodeD} {n m : Nat} (hT : ∀ x, x < n → rightB (T x) = true) (hU : ∀ x, x < m → rightB (U x) = true) (hTs : ∀ x, smallB (T x) = true) (hUs : ∀ x, smallB (U x) = true) (hn : n ≤ 40) (hm : m ≤ 40) (hno : NoColl T U n m) :
    ∀ k k' x y, IsLev x k → IsLev y k' → x + 2 ^ k ≤ n → y + 2 ^ k' ≤ m → hashN T k x = hashN U k' y → k = k' ∧ x = y ∧ ∀ j, x + 1 ≤ j + 2 ^ k → j < x + 2 ^ k → T j = U j := by
  intro k
  induction k with
  | zero =>
    intro k' x y hx hy hxn hym h
    have hp : (2 : Nat) ^ 0 = 1 := rfl
    have hpk : 0 < 2 ^ k' := Nat.pos_of_ne_zero (by simp)
    have lx : lev x = 0 := lev_eq (by omega) hx
    have ly : lev y = k' := lev_eq (by omega) hy
    have ht := hno x y (by omega) (by omega) (by rw [lx, ly, ← hashN_eq, ← hashN_eq]; exact h)
    rw [lx, ly] at ht
    cases k' with
    | succ k' =>
      rw [textN_zero, textN_succ] at ht
      have := congrArg List.head? ht
      simp at this
    | zero =>
      rw [textN_zero, textN_zero] at ht
      simp only [List.append_assoc] at ht
      have ht2 := (List.cons.inj (show (1 : Nat) :: (beN 4 (x / 2) ++ nodeB (T x)) = 1 :: (beN 4 (y / 2) ++ nodeB (U y)) from ht)).2
      obtain ⟨h1, h2⟩ := app_inj (by rw [beN_len, beN_len]) ht2
      have e := beN_inj (k := 4) (by omega) (by omega) h1
      have ex := lev_zero hx
      have ey := lev_zero hy
      have exy : x = y := by omega
      subst exy
      have hd := (nodeB_inj (r := []) (s := []) (hT x (by omega)) (hU x (by omega)) (hTs x) (hUs x) (by simpa using h2)).1
      exact ⟨rfl, rfl, fun j h1 h2 => by
        have : j = x := by omega
        subst this; exact hd⟩
  | succ k ih =>
    intro k' x y hx hy hxn hym h
    have hpw : 2 ^ (k + 1) = 2 * 2 ^ k := by rw [Nat.pow_succ]; omega
    have hp : 0 < 2 ^ k := Nat.pos_of_ne_zero (by simp)
    have hpk : 0 < 2 ^ k' := Nat.pos_of_ne_zero (by simp)
    have lx : lev x = k + 1 := lev_eq (by omega) hx
    have ly : lev y = k' := lev_eq (by omega) hy
    have ht := hno x y (by omega) (by omega) (by rw [lx, ly, ← hashN_eq, ← hashN_eq]; exact h)
    rw [lx, ly] at ht
    cases k' with
    | zero =>
      rw [textN_zero, textN_succ] at ht
      have := congrArg List.head? ht
      simp at this
    | succ k' =>
      have hpw' : 2 ^ (k' + 1) = 2 * 2 ^ k' := by rw [Nat.pow_succ]; omega
      have hp' : 0 < 2 ^ k' := Nat.pos_of_ne_zero (by simp)
      rw [textN_succ, textN_succ] at ht
      simp only [List.append_assoc] at ht
      have ht2 := (List.cons.inj (show (2 : Nat) :: (nodeB (T x) ++ (vecB (hashN T k (x - 2 ^ k)) ++ vecB (hashN T k (x + 2 ^ k)))) = 2 :: (nodeB (U y) ++ (vecB (hashN U k' (y - 2 ^ k')) ++ vecB (hashN U k' (y + 2 ^ k')))) from ht)).2
      obtain ⟨hd, h2⟩ := nodeB_inj (hT x (by omega)) (hU y (by omega)) (hTs x) (hUs y) ht2
      obtain ⟨h3, h4⟩ := vecB_inj (by rw [hashN_len]; omega) (by rw [hashN_len]; omega) h2
      have h5 := (vecB_inj (v := hashN T k (x + 2 ^ k)) (v' := hashN U k' (y + 2 ^ k')) (r := []) (r' := []) (by rw [hashN_len]; omega) (by rw [hashN_len]; omega) (by simpa using h4)).1
      obtain ⟨_, _, i1, i2, i3⟩ := kids_lev (by omega) hx
      obtain ⟨_, _, j1, j2, j3⟩ := kids_lev (by omega) hy
      obtain ⟨e1, e2, e3⟩ := ih k' _ _ i1 j1 (by omega) (by omega) h3
      obtain ⟨_, f2, f3⟩ := ih k' _ _ i2 j2 (by omega) (by omega) h5
      subst e1
      have exy : x = y := by omega
      subst exy
      refine ⟨rfl, rfl, fun j g1 g2 => ?_⟩
      rcases Nat.lt_trichotomy j x with hj | hj | hj
      · exact e3 j (by omega) (by omega)
      · subst hj; exact hd
      · exact f3 j (by omega) (by omega)
end Go.Proofs.Ytohldijomcljkaa
