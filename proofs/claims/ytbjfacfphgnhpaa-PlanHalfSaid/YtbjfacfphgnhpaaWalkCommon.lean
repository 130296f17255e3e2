/- Walks: slices.IndexFunc with Common's function, walk.Common, the reference's Common. -/
import Derived.Test.YtbjfacfphgnhpaaWalkCommonMath
import Derived.Test.YtbjfacfphgnhpaaWalkCopath
import Derived.Test.YtbjfacfphgnhpaaSameInts
namespace Go.Proofs.Ytbjfacfphgnhpaa
open Go.RowKit WalkM
set_option maxRecDepth 100000 in
set_option maxHeartbeats 1000000 in
theorem fun_any (a y : Int) (B : Nat) (w : World) (hc : w.cell? ⟨B, 0, none⟩ = some (.int .i64 y)) :
    Calls Try.prog 57 #[.int .i64 a, .pointer (some ⟨B, 0, none⟩)] w fun e w' => e = .returned (.bool (undZ y a)) ∧ w = w' := by
  have U := fun w => under_any y a w
  have HU := Lib.hid U
  clear U
  go_enter Try.func57, Try.ntmps57
  go_wp2_with fail
  refine (HU.out _).mono ?_
  rintro e w' ⟨rfl, rfl⟩
  go_wp2_with fail
  go_ret
  exact ⟨rfl, rfl⟩
set_option maxRecDepth 100000 in
set_option maxHeartbeats 1000000 in
/-- the first place at which the function answers true -/
theorem index_any (y : Int) (B : Nat) (v : Value) (L : List Int) (i0 : Nat) (w : World) (hr : Rd w v (ivs .i64 L)) (hc : w.cell? ⟨B, 0, none⟩ = some (.int .i64 y))
    (h0 : i0 < L.length) (hy : undZ y (L.getD i0 0) = true) (hn : ∀ i, i < i0 → undZ y (L.getD i 0) = false) :
    Calls Try.prog 56 #[v, .func (.func 57) #[] #[.pointer (some ⟨B, 0, none⟩)]] w fun e w' => e = .returned (.int .i64 (i0 : Nat)) ∧ w = w' := by
  rcases hr.icases with ⟨a, cap, rfl, rfl⟩ | ⟨b, off, cap, hpos, hc1, hc2, rfl, hb, hcell⟩
  · simp at h0
  · have F := fun a => fun_any a y B w hc
    obtain ⟨k, hk⟩ : ∃ k, k = L.length := ⟨_, rfl⟩
    rw [← hk] at hpos hc1 hcell h0 ⊢
    have hkm : k ≤ 9223372036854775807 := by unfold maxLen at hc2; omega
    have HF := Lib.hid F
    have HC := Lib.hid hcell
    have HY := Lib.hid hy
    have HN := Lib.hid hn
    clear F hcell hy hn hk hr
    go_enter Try.func56, Try.ntmps56
    go_wp2_with fail
    go_loopg [8] k (fun q i wr => ∃ r : Nat, r + q = k ∧ r ≤ i0 ∧ i = .int .i64 (r : Int) ∧ wr = w)
    case atStart => exact ⟨0, by omega, by omega, rfl, rfl⟩
    case round =>
      obtain ⟨r, hr, hri, rfl, rfl⟩ := hrel
      have hrk : r < k := by omega
      have c0 := HC.out r hrk
      have hF := HF.out (L.getD r 0)
      by_cases he : r = i0
      · subst he
        rw [HY.out] at hF
        obtain ⟨z, hz⟩ : ∃ z, z = L.getD r 0 := ⟨_, rfl⟩
        rw [← hz] at hF c0
        have HF1 := Lib.hid hF
        clear hF hz
        go_wp2_with fail
        refine (HF1.out).mono ?_
        rintro e w' ⟨rfl, rfl⟩
        go_wp2_with fail
        go_ret
        exact ⟨rfl, rfl⟩
      · rw [HN.out r (by omega)] at hF
        obtain ⟨z, hz⟩ : ∃ z, z = L.getD r 0 := ⟨_, rfl⟩
        rw [← hz] at hF c0
        have HF1 := Lib.hid hF
        clear hF hz
        go_wp2_with fail
        refine (HF1.out).mono ?_
        rintro e w' ⟨rfl, rfl⟩
        go_wp2_with fail
        go_roundg (gk - 1)
        case measure => omega
        case rel => exact ⟨r + 1, by omega, by omega, by go_num, rfl⟩
theorem ups_get (x : Nat) : ∀ k l i, i < k → (ups x l k)[i]? = some (anc x (l + i + 1)) := by
  intro k
  induction k with
  | zero => intro l i h; omega
  | succ k ih =>
    intro l i h
    rw [ups]
    cases i with
    | zero => rfl
    | succ i =>
      rw [List.getElem?_cons_succ, ih (l + 1) i (by omega)]
      rw [show l + 1 + i + 1 = l + (i + 1) + 1 by omega]
set_option maxRecDepth 100000 in
set_option maxHeartbeats 2000000 in
theorem common_on (x y d : Nat) (hd : d ≤ 16) (hx : x + 1 < 2 ^ (d + 1)) (hy : y + 1 < 2 ^ (d + 1)) (w : World) :
    Calls Try.prog 33 #[.int .i64 x, .int .i64 y, .int .i64 ((2 ^ d : Nat) : Int)] w fun e w' => e = .returned (.int .i64 (anc x (com x y) : Nat)) ∧ Below w.heap.size w w' := by
  have h17 := two_pow_le (show d + 1 ≤ 17 by omega)
  have h16 := two_pow_le hd
  have hlv := lev_is (x := x) (by omega)
  have hl := (lev_root hx hlv).1
  have hself := anc_self hlv
  have hc := com_ex hd hx hy
  have O := fun w => of_any (x : Int) ((2 ^ d : Nat) : Int) w (by omega) (by omega)
  have O' := fun w => of_any (y : Int) ((2 ^ d : Nat) : Int) w (by omega) (by omega)
  rw [isOf_nat hd, decide_eq_true hx] at O
  rw [isOf_nat hd, decide_eq_true hy] at O'
  have P := fun w => path_any x d hd hx w
  obtain ⟨L, hL⟩ : ∃ L : List Int, L = (x : Int) :: (ups x (lev x) (d - lev x)).map fun (n : Nat) => (n : Int) := ⟨_, rfl⟩
  have hLn : L.length = d - lev x + 1 := by rw [hL]; simp [ups_len]
  have hLg : ∀ i, i ≤ d - lev x → L.getD i 0 = (anc x (lev x + i) : Nat) := by
    intro i hi
    rw [hL]
    cases i with
    | zero => simp [hself]
    | succ i =>
      rw [List.getD_eq_getElem?_getD, List.getElem?_cons_succ, List.getElem?_map, ups_get x _ _ i (by omega)]
      rfl
  have hic : com x y - lev x ≤ d - lev x := by omega
  have hcl := hc.1.1
  have I := fun (B : Nat) (v : Value) (w : World) (hr : Rd w v (ivs .i64 L)) (hcl : w.cell? ⟨B, 0, none⟩ = some (.int .i64 (y : Int))) => index_any (y : Int) B v L (com x y - lev x) w hr hcl (by omega)
    (by rw [hLg _ hic, und_anc hd hx hy (by omega), decide_eq_true]; rw [show lev x + (com x y - lev x) = com x y by omega]; exact ⟨hc.1.2.1, hc.1.2.2.1⟩)
    (by
      intro i hi
      rw [hLg _ (by omega), und_anc hd hx hy (by omega), decide_eq_false]
      rintro ⟨a, b⟩
      exact hc.1.2.2.2 (lev x + i) (by omega) a (by omega) b)
  have g := hLg _ hic
  rw [show lev x + (com x y - lev x) = com x y by omega] at g
  obtain ⟨r, hr⟩ : ∃ r, r = com x y - lev x := ⟨_, rfl⟩
  rw [← hr] at I g
  have hrL : r < L.length := by omega
  have hr16 : r ≤ 16 := by omega
  obtain ⟨a, ha⟩ : ∃ a, a = anc x (com x y) := ⟨_, rfl⟩
  rw [← ha] at g ⊢
  have hLL : ivs .i64 L = .int .i64 (x : Int) :: nvs (ups x (lev x) (d - lev x)) := by rw [hL]; rfl
  obtain ⟨M, hM⟩ : ∃ M, M = nvs (ups x (lev x) (d - lev x)) := ⟨_, rfl⟩
  have hM1 : M.length ≤ 16 := by rw [hM, nvs_len, ups_len]; omega
  have hM2 : ∀ u ∈ M, u.oneCell' = true := by
    rw [hM]
    intro u hu
    simp only [nvs, ivs, List.mem_map] at hu
    obtain ⟨n, _, rfl⟩ := hu
    rfl
  rw [← hM] at P hLL
  obtain ⟨n, hn⟩ : ∃ n, n = 2 ^ d := ⟨_, rfl⟩
  rw [← hn] at P O O' ⊢
  have HO := Lib.hid O
  have HO' := Lib.hid O'
  have HP := Lib.hid P
  have HI := Lib.hid I
  have HG := Lib.hid g
  have HLL := Lib.hid hLL
  have HM := Lib.hid hM2
  have hLb : L.length ≤ 17 := by omega
  have HLM : Hid (M.length + 1 = L.length) := Lib.hid (by have := congrArg List.length hLL; simp [ivs] at this; omega)
  clear O O' P I g hLL hM2 hM hL hLn hLg hlv hl hself hc hx hy hcl hic hr ha hn h17 h16
  go_enter Try.func33, Try.ntmps33
  go_wp2_with fail
  refine (HO.out _).mono ?_
  rintro e w' ⟨rfl, rfl⟩
  go_wp2_with fail
  refine (HO'.out _).mono ?_
  rintro e w' ⟨rfl, rfl⟩
  go_wp2_with fail
  refine (HP.out _).mono ?_
  rintro e w1 ⟨v, rfl, hown, hb⟩
  have HB := Lib.hid hb
  have hz := hb.size
  simp at hz
  have HOW := Lib.hid hown
  have ky := hb.cell (p := ⟨w.heap.size, 0, none⟩) (by simp; omega)
  have HKY : Hid (w1.cell? ⟨w.heap.size, 0, none⟩ = some (.int .i64 (y : Int))) := Lib.hid (ky.trans (by go_simp))
  clear hb hown ky
  go_wp2_with (at_builtin; refine wpList_app rfl (.tmp 19) (.tmp 22) 35 rfl (w.heap.size + 1) 3 _ 8 intsE _ [.int .i64 (x : Int)] rfl ?c1 _ M rfl HOW.out.rd HM.out ?c2 ?c3 ?_)
  case c1 => exact (Own.full (by simp) (by simp) (by unfold maxLen; simp) rfl).below HB.out (Nat.le_refl _)
  case c2 => simp; omega
  case c3 => omega
  rintro v' w2 hown2 - hb2
  have hrd := hown2.rd
  rw [← HLL.out] at hrd
  have hcy := (hb2.cell (p := ⟨w.heap.size, 0, none⟩) (by simp)).trans HKY.out
  have hI := HI.out w.heap.size v' w2 hrd hcy
  rcases hrd.icases with ⟨a', cap, rfl, h0⟩ | ⟨b, off, cap, hpos, hc1, hc2, rfl, hbl, hcell⟩
  · rw [h0] at hrL; simp at hrL
  · have c0 := hcell r hrL
    rw [HG.out] at c0
    have HB2 := Lib.hid hb2
    have HI2 := Lib.hid hI
    obtain ⟨k, hk⟩ : ∃ k, k = L.length := ⟨_, rfl⟩
    rw [← hk] at HI2 hrL hLb ⊢
    clear hb2 hI hown2 hrd hcy hcell hpos hc1 hk
    go_wp2_with fail
    refine HI2.out.mono ?_
    rintro e w3 ⟨rfl, rfl⟩
    go_wp2_with fail
    go_ret
    refine ⟨rfl, ?_⟩
    exact (((Below.refl _ _).alloc (Nat.le_refl _) _).alloc (by simp) _).trans ((HB.out.mono (by simp; omega)).trans (HB2.out.mono (by omega)))
set_option maxRecDepth 100000 in
set_option maxHeartbeats 2000000 in
theorem common_any (x y n : Int) (w : World) (h1 : -9223372036854775808 ≤ n) (h2 : n ≤ 9223372036854775807) :
    Calls Try.prog 33 #[.int .i64 x, .int .i64 y, .int .i64 n] w fun e w' => e = .returned (.int .i64 (comZ x y n)) ∧ Below w.heap.size w w' := by
  have O := fun w => of_any x n w h1 h2
  have O' := fun w => of_any y n w h1 h2
  by_cases hx : isOf x n = true
  · by_cases hy : isOf y n = true
    · obtain ⟨m, d, rfl, rfl, hd, hm⟩ := isOf_out hx
      have hyb := isOf_bd hy
      obtain ⟨q, rfl⟩ : ∃ q : Nat, y = (q : Int) := ⟨y.toNat, by omega⟩
      have hq := hy
      rw [isOf_nat hd, decide_eq_true_eq] at hq
      rw [comZ, hx, hy, if_pos (show (true && true) = true from rfl), Int.toNat_natCast, Int.toNat_natCast]
      exact common_on m q d hd hm hq w
    · have hf : isOf y n = false := by rw [← Bool.not_eq_true]; exact hy
      rw [hx] at O
      rw [hf] at O'
      have e : comZ x y n = -1 := by rw [comZ, hf, Bool.and_false, if_neg (by simp)]
      rw [e]
      have HO := Lib.hid O
      have HO' := Lib.hid O'
      clear O O' hx hy hf e h1 h2
      go_enter Try.func33, Try.ntmps33
      go_wp2_with fail
      refine (HO.out _).mono ?_
      rintro e w' ⟨rfl, rfl⟩
      go_wp2_with fail
      refine (HO'.out _).mono ?_
      rintro e w' ⟨rfl, rfl⟩
      go_wp2_with fail
      go_ret
      exact ⟨rfl, (Below.refl _ _).alloc (Nat.le_refl _) _⟩
  · have hf : isOf x n = false := by rw [← Bool.not_eq_true]; exact hx
    rw [hf] at O
    have e : comZ x y n = -1 := by rw [comZ, hf, Bool.false_and, if_neg (by simp)]
    rw [e]
    have HO := Lib.hid O
    clear O O' hx hf e h1 h2
    go_enter Try.func33, Try.ntmps33
    go_wp2_with fail
    refine (HO.out _).mono ?_
    rintro e w' ⟨rfl, rfl⟩
    go_wp2_with fail
    go_ret
    exact ⟨rfl, (Below.refl _ _).alloc (Nat.le_refl _) _⟩
end Go.Proofs.Ytbjfacfphgnhpaa
