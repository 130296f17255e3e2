/- Walks: WalkBack. -/
import Derived.Test.YtbjfacfphgnhpaaWalkAlive
namespace Go.Proofs.Ytbjfacfphgnhpaa
open Go.RowKit WalkM
set_option linter.unusedVariables false
theorem Rd.get {w : World} {a : Option Addr} {n cap r : Nat} {xs : List Value} {u : Value} (h : Rd w (.slice a n cap) xs) (hu : xs[r]? = some u) : ∃ b off, a = some ⟨b, off, none⟩ ∧ b < w.heap.size ∧ w.cell? ⟨b, off + r, none⟩ = some u := by
  have hlt := h.lt
  obtain ⟨a', cap', he, h1, h2, ⟨h0, _⟩ | ⟨b, off, rfl, hc⟩⟩ := h
  · rw [h0] at hu; simp at hu
  · simp only [Value.slice.injEq] at he
    obtain ⟨rfl, _, _⟩ := he
    have := hc r u hu
    exact ⟨b, off, rfl, World.block_lt_of_cell? w _ this, this⟩
theorem nvs_ups_get (x l k r : Nat) (h : r < k) : (nvs (ups x l k))[r]? = some (.int .i64 (anc x (l + r + 1) : Nat)) := by
  unfold nvs ivs
  rw [List.getElem?_map, List.getElem?_map, ups_get x k l r h]
  rfl
theorem even_lev {m : Nat} (hm : m ≤ 131070) : (m % 2 = 0 ↔ lev m = 0) := by
  have h := lev_is hm
  constructor
  · intro h0
    rcases Nat.eq_zero_or_pos (lev m) with h1 | h1
    · exact h1
    · have := lev_one h h1
      simp at this
      omega
  · intro h0
    rw [h0] at h
    unfold IsLev at h
    simpa using h
theorem kids_back {m d : Nat} (hd : d ≤ 16) (hm : m + 1 < 2 ^ (d + 1)) (hl : 0 < lev m) :
    ∃ a b : Nat, leftZ m = a ∧ rightZ m = b ∧ parZ a ((2 ^ d : Nat) : Int) = m ∧ parZ b ((2 ^ d : Nat) : Int) = m ∧ sibZ a ((2 ^ d : Nat) : Int) = b ∧ sibZ b ((2 ^ d : Nat) : Int) = a ∧ a + b = 2 * m ∧ b ≤ 131070 := by
  have h17 := two_pow_le (show d + 1 ≤ 17 by omega)
  have hlv := lev_is (x := m) (by omega)
  have hld := (lev_root hm hlv).1
  have hph := phi_le (x := m) (d := d) (j := lev m) (by omega) hld
  have hs := anc_self hlv
  rw [anc_plo] at hs
  obtain ⟨k, hk⟩ : ∃ k, lev m = k + 1 := ⟨lev m - 1, by omega⟩
  have hh : halfZ (m : Int) = ((2 ^ k : Nat) : Int) := by
    rw [halfZ, levZ_nat (by omega), if_pos (by omega), hk]
    simp
  rw [hk] at hs hph hlv hld
  have hp := pow_pos' k
  have e1 : 2 ^ (k + 1) = 2 * 2 ^ k := by rw [Nat.pow_succ]; omega
  have e2 : 2 ^ (k + 1 + 1) = 4 * 2 ^ k := by rw [Nat.pow_succ, e1]; omega
  have hq : plo m (k + 1) = m / 2 ^ (k + 1 + 1) * 2 ^ (k + 1 + 1) := rfl
  have hphe : phi m (k + 1) = plo m (k + 1) + (2 ^ (k + 1 + 1) - 2) := rfl
  obtain ⟨q, hqq⟩ : ∃ q, q = m / 2 ^ (k + 1 + 1) := ⟨_, rfl⟩
  rw [← hqq] at hq
  have hlev : ∀ a, (a = q * 2 ^ (k + 1 + 1) + (2 ^ k - 1) ∨ a = q * 2 ^ (k + 1 + 1) + (2 ^ (k + 1) + (2 ^ k - 1))) → IsLev a k ∧ anc a (k + 1) = m := by
    intro a ha
    constructor
    · unfold IsLev
      rcases ha with rfl | rfl
      · rw [Nat.pow_succ 2 (k + 1), Nat.mul_comm (2 ^ (k + 1)) 2, ← Nat.mul_assoc, Nat.mul_comm, Nat.mul_add_mod]
        exact Nat.mod_eq_of_lt (by omega)
      · rw [Nat.pow_succ 2 (k + 1), Nat.mul_comm (2 ^ (k + 1)) 2, ← Nat.mul_assoc, Nat.mul_comm, Nat.mul_add_mod, Nat.add_mod_left]
        exact Nat.mod_eq_of_lt (by omega)
    · have hdv : a / 2 ^ (k + 1 + 1) = q := by
        rcases ha with rfl | rfl
        · rw [Nat.mul_comm, Nat.mul_add_div (by omega), Nat.div_eq_of_lt (by omega)]; rfl
        · rw [Nat.mul_comm, Nat.mul_add_div (by omega), Nat.div_eq_of_lt (by omega)]; rfl
      unfold anc
      rw [hdv]
      omega
  obtain ⟨a, ha⟩ : ∃ a, a = q * 2 ^ (k + 1 + 1) + (2 ^ k - 1) := ⟨_, rfl⟩
  obtain ⟨b, hb⟩ : ∃ b, b = q * 2 ^ (k + 1 + 1) + (2 ^ (k + 1) + (2 ^ k - 1)) := ⟨_, rfl⟩
  have la := hlev a (.inl ha)
  have lb := hlev b (.inr hb)
  have ham : a + 2 ^ k = m := by omega
  have hbm : b = m + 2 ^ k := by omega
  have hb17 : b + 1 < 2 ^ (d + 1) := by omega
  have pa : parZ (a : Int) ((2 ^ d : Nat) : Int) = m := by
    rw [parZ_nat hd (by omega), lev_eq (by omega) la.1, nxt, if_pos (by omega), la.2]
  have pb : parZ (b : Int) ((2 ^ d : Nat) : Int) = m := by
    rw [parZ_nat hd (by omega), lev_eq (by omega) lb.1, nxt, if_pos (by omega), lb.2]
  have el : leftZ (m : Int) = a := by rw [leftZ, hh, if_neg (by omega)]; omega
  have er : rightZ (m : Int) = b := by rw [rightZ, hh, if_neg (by omega)]; omega
  refine ⟨a, b, el, er, pa, pb, ?_, ?_, by omega, by omega⟩
  · rw [sibZ, pa, if_neg (by omega), if_pos (by omega), er]
  · rw [sibZ, pb, if_neg (by omega), if_neg (by omega), el]
set_option maxRecDepth 100000 in
set_option maxHeartbeats 4000000 in
/-- what is no node -/
theorem walkBack_off (x n : Int) (hn : -9223372036854775808 ≤ n ∧ n ≤ 9223372036854775807) (ho : isOf x n = false) (w : World) :
    Calls Try.prog 8 #[.int .i64 x, .int .i64 n] w fun e w' => e = .returned (.bool true) ∧ Below w.heap.size w w' := by
  have HA := Lib.hid (fun w => alive14 w)
  have F := fun w => fits_any n w hn.1 hn.2
  have P := fun w => parent_any x n w hn.1 hn.2
  have T := fun w => path_all x n w hn.1 hn.2
  have C := fun w => copath_any x n w hn.1 hn.2
  have e1 : parZ x n = -1 := by rw [parZ, if_neg (by rw [ho]; simp)]
  have e2 : nvs (pathL x n) = [] := by rw [pathL_off ho]; rfl
  have e3 : ivs .i64 (copL x n) = [] := by rw [copL_off ho]; rfl
  rw [e1] at P
  rw [e2] at T
  rw [e3] at C
  have HP := Lib.hid P
  have HT := Lib.hid T
  have HC := Lib.hid C
  have hcase : fits n.toNat = false ∨ (fits n.toNat = true ∧ x < 0) ∨ (fits n.toNat = true ∧ 0 ≤ x ∧ 2 * n - 2 < x ∧ n ≤ 65536 ∧ 1 ≤ n) := by
    by_cases hf : fits n.toNat = true
    · rw [isOf, hf, Bool.true_and] at ho
      have := of_decide_eq_false ho
      have := fits_small hf
      by_cases h : x < 0
      · exact .inr (.inl ⟨hf, h⟩)
      · exact .inr (.inr ⟨hf, by omega, by omega, by omega, by omega⟩)
    · exact .inl (by rw [← Bool.not_eq_true]; exact hf)
  clear P T C e1 e2 e3 ho
  rcases hcase with hf | ⟨hf, h⟩ | ⟨hf, h, h', h'', h3⟩
  all_goals
    rw [hf] at F
    have HF := Lib.hid F
    clear F hf hn
    go_enter Try.func8, Try.ntmps8
    go_wp2_with fail
    refine (HA.out _).mono ?_
    rintro e w1 ⟨rfl, hb⟩
    have HB1 := Lib.hid hb
    clear hb
    go_wp2_with fail
    refine (HF.out _).mono ?_
    rintro e w' ⟨rfl, rfl⟩
    go_wp2_with fail
    refine (HP.out _).mono ?_
    rintro e w2 ⟨rfl, q, rfl⟩
    go_wp2_with fail
    refine (HT.out _).mono ?_
    rintro e w2 ⟨v1, rfl, hown, hb⟩
    obtain ⟨a1, cap1, rfl, _, _, _⟩ := hown.rd
    have HB2 := Lib.hid (Below.next (Below.draws HB1.out _) hb)
    clear hown hb
    go_wp2_with fail
    refine (HC.out _).mono ?_
    rintro e w3 ⟨v2, rfl, hown, hb⟩
    obtain ⟨a2, cap2, rfl, _, _, _⟩ := hown.rd
    have HB3 := Lib.hid (Below.next HB2.out hb)
    clear hown hb
    go_wp2_with fail
    go_ret
    exact ⟨rfl, HB3.out⟩
set_option maxRecDepth 100000 in
set_option maxHeartbeats 4000000 in
theorem walkBack_on (m d : Nat) (hd : d ≤ 16) (hm : m + 1 < 2 ^ (d + 1)) (w : World) :
    Calls Try.prog 8 #[.int .i64 m, .int .i64 ((2 ^ d : Nat) : Int)] w fun e w' => e = .returned (.bool true) ∧ Below w.heap.size w w' := by
  have h17 := two_pow_le (show d + 1 ≤ 17 by omega)
  have h16 := two_pow_le hd
  have he2 : 2 ^ (d + 1) = 2 * 2 ^ d := by rw [Nat.pow_succ]; omega
  have hp := pow_pos' d
  have HA := Lib.hid (fun w => alive14 w)
  have F := fun w => fits_any ((2 ^ d : Nat) : Int) w (by omega) (by omega)
  have hf : fits (2 ^ d) = true := (fits_iff _).2 ⟨d, hd, rfl⟩
  rw [Int.toNat_natCast, hf] at F
  have LE := fun w => left_any (m : Int) w
  have RI := fun w => right_any (m : Int) w
  have T := fun w => path_any m d hd hm w
  have RO := fun w => root_any ((2 ^ d : Nat) : Int) w (by omega) (by omega)
  have er : rootZ ((2 ^ d : Nat) : Int) = ((2 ^ d : Nat) : Int) - 1 := by rw [rootZ, if_pos (by rw [Int.toNat_natCast]; exact hf)]
  rw [er] at RO
  have hlvm := lev_is (x := m) (by omega)
  have hl := (lev_root hm hlvm).1
  have hself := anc_self hlvm
  have hend : ((anc m (lev m + (d - lev m)) : Nat) : Int) = ((2 ^ d : Nat) : Int) - 1 := by
    rw [show lev m + (d - lev m) = d by omega, anc_root (by omega)]; omega
  have PA := fun (y : Int) w => parent_any y ((2 ^ d : Nat) : Int) w (by omega) (by omega)
  have SA := fun (y : Int) w => sibling_any y ((2 ^ d : Nat) : Int) w (by omega) (by omega)
  have hle : ∀ j, j ≤ d → anc m j ≤ 131070 := fun j hj => by have := anc_le (x := m) (d := d) (j := j) (by omega) hj; omega
  have hLV : ∀ r, r < d - lev m → (∀ w, Calls Try.prog 40 #[.int .i64 (anc m (lev m + r) : Nat)] w fun e w' => e = .returned (.int .i64 ((lev m + r : Nat) : Int)) ∧ w = w') ∧ (∀ w, Calls Try.prog 40 #[.int .i64 (anc m (lev m + r + 1) : Nat)] w fun e w' => e = .returned (.int .i64 ((lev m + r + 1 : Nat) : Int)) ∧ w = w') := by
    intro r hr
    constructor
    · intro w
      have := level_any (anc m (lev m + r) : Nat) w
      rw [levZ_nat (hle _ (by omega)), lev_eq (hle _ (by omega)) (anc_lev _ _)] at this
      exact this
    · intro w
      have := level_any (anc m (lev m + r + 1) : Nat) w
      rw [levZ_nat (hle _ (by omega)), lev_eq (hle _ (by omega)) (anc_lev _ _)] at this
      exact this
  have hU1 : ∀ r, r < d - lev m → ∀ w, Calls Try.prog 35 #[.int .i64 (anc m (lev m + r) : Nat), .int .i64 (anc m (lev m + r + 1) : Nat)] w fun e w' => e = .returned (.bool true) ∧ w = w' := by
    intro r hr w
    have := under_any (anc m (lev m + r) : Nat) (anc m (lev m + r + 1) : Nat) w
    have e0 : anc m (lev m + r + 1) = anc (anc m (lev m + r)) (lev m + r + 1) := (anc_anc (by omega)).symm
    rw [e0, und_anc (x := anc m (lev m + r)) (y := anc m (lev m + r)) hd (anc_le (by omega) (by omega)) (anc_le (by omega) (by omega)) (by omega), decide_eq_true ⟨by rw [lev_eq (hle _ (by omega)) (anc_lev _ _)]; omega, rfl⟩, ← e0] at this
    exact this
  have hU2 : ∀ r, r < d - lev m → ∀ w, Calls Try.prog 35 #[.int .i64 (anc m (lev m + r + 1) : Nat), .int .i64 (anc m (lev m + r) : Nat)] w fun e w' => e = .returned (.bool false) ∧ w = w' := by
    intro r hr w
    have := under_any (anc m (lev m + r + 1) : Nat) (anc m (lev m + r) : Nat) w
    rw [und_anc (x := m) (y := anc m (lev m + r + 1)) hd hm (anc_le (by omega) (by omega)) (by omega), decide_eq_false (by rintro ⟨h, _⟩; rw [lev_eq (hle _ (by omega)) (anc_lev _ _)] at h; omega)] at this
    exact this
  have hev := even_lev (m := m) (by omega)
  have hkn := fun (h : lev m = 0) => kids_none (x := (m : Int)) (by rw [levZ_nat (by omega), h]; omega)
  have hkb := fun (h : 0 < lev m) => kids_back hd hm h
  obtain ⟨n, hn⟩ : ∃ n, n = 2 ^ d := ⟨_, rfl⟩
  rw [← hn] at F T RO hend PA SA hkb he2 h16 hp ⊢
  obtain ⟨l, hl'⟩ : ∃ l, l = lev m := ⟨_, rfl⟩
  rw [← hl'] at T hl hself hend hLV hU1 hU2 hev hkn hkb
  obtain ⟨k, hk⟩ : ∃ k, k = d - l := ⟨_, rfl⟩
  rw [← hk] at T hend hLV hU1 hU2
  have hlk : l + k ≤ 16 := by omega
  have hm2 : m ≤ 2 * n - 2 := by omega
  have hm3 : (m : Int) ≤ 2 * (n : Int) - 2 := by omega
  have HF := Lib.hid F
  have HT := Lib.hid T
  have HRO := Lib.hid RO
  have HEND := Lib.hid hend
  have HSELF := Lib.hid hself
  have HLV := Lib.hid hLV
  have HU1 := Lib.hid hU1
  have HU2 := Lib.hid hU2
  clear F T RO hend hself hLV hU1 hU2 hle hf er hlvm hn hl hl' hk he2 hm h17
  by_cases hev0 : l = 0
  · have h2 : ((m : Int) % 2 == 0) = true := by rw [beq_iff_eq]; have := hev.2 hev0; omega
    have hk' := hkn hev0
    rw [hk'.1] at LE
    rw [hk'.2] at RI
    have HLE := Lib.hid LE
    have HRI := Lib.hid RI
    clear LE RI hk' hkn hkb hev PA SA hev0
    go_enter Try.func8, Try.ntmps8
    go_wp2_with fail
    refine (HA.out _).mono ?_
    rintro e w1 ⟨rfl, hb⟩
    have HB1 := Lib.hid hb
    clear hb
    go_wp2_with fail
    refine (HF.out _).mono ?_
    rintro e w' ⟨rfl, rfl⟩
    go_wp2_with fail
    refine (HLE.out _).mono ?_
    rintro e w' ⟨rfl, rfl⟩
    go_wp2_with fail
    refine (HRI.out _).mono ?_
    rintro e w' ⟨rfl, rfl⟩
    go_wp2_with fail
    refine (HT.out _).mono ?_
    rintro e w2 ⟨v, rfl, hown, hb⟩
    have HB2 := Lib.hid (Below.next (HB1.out) hb)
    have hrd := hown.rd
    obtain ⟨a1, cap1, rfl, hc1, hc2, _⟩ := id hrd
    rw [nvs_len, ups_len] at hc1 hrd ⊢
    have HRD := Lib.hid hrd
    clear hown hb hrd
    go_wp2_with fail
    go_loopg [8, 9] k (fun q at_ i wr => ∃ r : Nat, r + q = k ∧ i = .int .i64 (r : Int) ∧ at_ = .int .i64 (anc m (l + r) : Nat) ∧ wr = w2)
    case atStart => exact ⟨0, by omega, rfl, val_int (by rw [Nat.add_zero, HSELF.out]), rfl⟩
    case round =>
      obtain ⟨r, hr, rfl, rfl, rfl⟩ := hrel
      by_cases hrk : r < k
      · obtain ⟨b1, o1, rfl, _, c1⟩ := HRD.out.get (nvs_ups_get m l k r hrk)
        have hlv := HLV.out r (by omega)
        have hu1 := HU1.out r (by omega)
        have hu2 := HU2.out r (by omega)
        obtain ⟨z0, hz0⟩ : ∃ a, a = anc m (l + r) := ⟨_, rfl⟩
        obtain ⟨z1, hz1⟩ : ∃ a, a = anc m (l + r + 1) := ⟨_, rfl⟩
        rw [← hz0] at hlv hu1 hu2 ⊢
        rw [← hz1] at c1 hlv hu1 hu2
        obtain ⟨hlv0, hlv1⟩ := hlv
        have HZ1 := Lib.hid hz1
        have H0 := Lib.hid hlv0
        have H1 := Lib.hid hlv1
        have U1 := Lib.hid hu1
        have U2 := Lib.hid hu2
        have hlr : l + r ≤ 16 := by omega
        clear hz0 hz1 hlv0 hlv1 hu1 hu2
        go_wp2_with fail
        refine (H1.out _).mono ?_
        rintro e w' ⟨rfl, rfl⟩
        go_wp2_with fail
        refine (H0.out _).mono ?_
        rintro e w' ⟨rfl, rfl⟩
        go_wp2_with fail
        refine (U1.out _).mono ?_
        rintro e w' ⟨rfl, rfl⟩
        go_wp2_with fail
        refine (U2.out _).mono ?_
        rintro e w' ⟨rfl, rfl⟩
        go_wp2_with fail
        go_roundg (gk - 1)
        case measure => omega
        case rel => exact ⟨r + 1, by omega, by go_num, val_int (by rw [HZ1.out]; rfl), rfl⟩
      · obtain rfl : r = k := by omega
        have he : ((anc m (l + r) : Nat) : Int) = (n : Int) - 1 := HEND.out
        rw [he]
        clear he
        go_wp2_with fail
        refine (HRO.out _).mono ?_
        rintro e w' ⟨rfl, rfl⟩
        go_wp2_with fail
        go_ret
        exact ⟨rfl, HB2.out⟩
  · have h2 : ((m : Int) % 2 == 0) = false := by
      rw [beq_eq_false_iff_ne]
      intro h
      exact hev0 (hev.1 (by omega))
    obtain ⟨a, b, ka, kb, pa, pb, sa, sb, hab, hb17⟩ := hkb (by omega)
    rw [ka] at LE
    rw [kb] at RI
    have PA' := PA (a : Int)
    have PB' := PA (b : Int)
    have SA' := SA (a : Int)
    have SB' := SA (b : Int)
    rw [pa] at PA'
    rw [pb] at PB'
    rw [sa] at SA'
    rw [sb] at SB'
    have HLE := Lib.hid LE
    have HRI := Lib.hid RI
    have hab' : (a : Int) + (b : Int) = 2 * (m : Int) := by omega
    have PB := Lib.hid PB'
    have SB := Lib.hid SB'
    clear LE RI hkn hkb hev ka kb pa pb sa sb PB' SB' hev0
    have PA := Lib.hid PA'
    have SA := Lib.hid SA'
    clear PA' SA'
    have ha17 : a ≤ 262140 := by omega
    clear hab
    go_enter Try.func8, Try.ntmps8
    go_wp2_with fail
    refine (HA.out _).mono ?_
    rintro e w1 ⟨rfl, hb⟩
    have HB1 := Lib.hid hb
    clear hb
    go_wp2_with fail
    refine (HF.out _).mono ?_
    rintro e w' ⟨rfl, rfl⟩
    go_wp2_with fail
    refine (HLE.out _).mono ?_
    rintro e w' ⟨rfl, rfl⟩
    go_wp2_with fail
    refine (HRI.out _).mono ?_
    rintro e w' ⟨rfl, rfl⟩
    go_wp2_with fail
    refine (PA.out _).mono ?_
    rintro e w' ⟨rfl, q1, rfl⟩
    go_wp2_with fail
    refine (PB.out _).mono ?_
    rintro e w' ⟨rfl, q2, rfl⟩
    go_wp2_with fail
    refine (SA.out _).mono ?_
    rintro e w' ⟨rfl, q3, rfl⟩
    go_wp2_with fail
    refine (SB.out _).mono ?_
    rintro e w' ⟨rfl, q4, rfl⟩
    go_wp2_with fail
    refine (HT.out _).mono ?_
    rintro e w2 ⟨v, rfl, hown, hb⟩
    have HB2 := Lib.hid (Below.next (Below.draws HB1.out _) hb)
    have hrd := hown.rd
    obtain ⟨a1, cap1, rfl, hc1, hc2, _⟩ := id hrd
    rw [nvs_len, ups_len] at hc1 hrd ⊢
    have HRD := Lib.hid hrd
    clear hown hb hrd
    go_wp2_with fail
    go_loopg [8, 9] k (fun q at_ i wr => ∃ r : Nat, r + q = k ∧ i = .int .i64 (r : Int) ∧ at_ = .int .i64 (anc m (l + r) : Nat) ∧ wr = w2)
    case atStart => exact ⟨0, by omega, rfl, val_int (by rw [Nat.add_zero, HSELF.out]), rfl⟩
    case round =>
      obtain ⟨r, hr, rfl, rfl, rfl⟩ := hrel
      by_cases hrk : r < k
      · obtain ⟨b1, o1, rfl, _, c1⟩ := HRD.out.get (nvs_ups_get m l k r hrk)
        have hlv := HLV.out r (by omega)
        have hu1 := HU1.out r (by omega)
        have hu2 := HU2.out r (by omega)
        obtain ⟨z0, hz0⟩ : ∃ a, a = anc m (l + r) := ⟨_, rfl⟩
        obtain ⟨z1, hz1⟩ : ∃ a, a = anc m (l + r + 1) := ⟨_, rfl⟩
        rw [← hz0] at hlv hu1 hu2 ⊢
        rw [← hz1] at c1 hlv hu1 hu2
        obtain ⟨hlv0, hlv1⟩ := hlv
        have HZ1 := Lib.hid hz1
        have H0 := Lib.hid hlv0
        have H1 := Lib.hid hlv1
        have U1 := Lib.hid hu1
        have U2 := Lib.hid hu2
        have hlr : l + r ≤ 16 := by omega
        clear hz0 hz1 hlv0 hlv1 hu1 hu2
        go_wp2_with fail
        refine (H1.out _).mono ?_
        rintro e w' ⟨rfl, rfl⟩
        go_wp2_with fail
        refine (H0.out _).mono ?_
        rintro e w' ⟨rfl, rfl⟩
        go_wp2_with fail
        refine (U1.out _).mono ?_
        rintro e w' ⟨rfl, rfl⟩
        go_wp2_with fail
        refine (U2.out _).mono ?_
        rintro e w' ⟨rfl, rfl⟩
        go_wp2_with fail
        go_roundg (gk - 1)
        case measure => omega
        case rel => exact ⟨r + 1, by omega, by go_num, val_int (by rw [HZ1.out]; rfl), rfl⟩
      · obtain rfl : r = k := by omega
        have he : ((anc m (l + r) : Nat) : Int) = (n : Int) - 1 := HEND.out
        rw [he]
        clear he
        go_wp2_with fail
        refine (HRO.out _).mono ?_
        rintro e w' ⟨rfl, rfl⟩
        go_wp2_with fail
        go_ret
        exact ⟨rfl, HB2.out⟩
theorem walkBack_walk (x n : Int) (hx : -9223372036854775808 ≤ x ∧ x ≤ 9223372036854775807) (hn : -9223372036854775808 ≤ n ∧ n ≤ 9223372036854775807) (w : World) :
    Calls Try.prog 8 #[.int .i64 x, .int .i64 n] w fun e w' => e = .returned (.bool true) ∧ Below w.heap.size w w' := by
  by_cases ho : isOf x n = true
  · obtain ⟨m, d, rfl, rfl, hd, hm⟩ := isOf_out ho
    exact walkBack_on m d hd hm w
  · exact walkBack_off x n hn (by rw [← Bool.not_eq_true]; exact ho) w
end Go.Proofs.Ytbjfacfphgnhpaa
