/- Walks: the reference's Copath, walk.Copath. -/
import Derived.Test.YtbjfacfphgnhpaaWalkRPath
namespace Go.Proofs.Ytbjfacfphgnhpaa
open Go.RowKit WalkM
/-- siblings of r ancestors, from the level l on -/
def cops (x : Nat) (n : Int) (l r : Nat) : List Int := (List.range r).map fun j => sibZ (anc x (l + j) : Nat) n
theorem cops_len (x : Nat) (n : Int) (l r : Nat) : (cops x n l r).length = r := by simp [cops]
theorem cops_snoc (x : Nat) (n : Int) (l r : Nat) : cops x n l (r + 1) = cops x n l r ++ [sibZ (anc x (l + r) : Nat) n] := by
  unfold cops
  rw [List.range_succ, List.map_append]
  rfl
theorem ivs_snoc (k : IntKind) (L : List Int) (x : Int) : ivs k (L ++ [x]) = ivs k L ++ [.int k x] := by simp [ivs]
theorem ivs_len (k : IntKind) (L : List Int) : (ivs k L).length = L.length := by simp [ivs]
/-- the copath, for any x and n -/
def copL (x n : Int) : List Int := if isOf x n = true then cops x.toNat n (lev x.toNat) (Nat.log2 n.toNat - lev x.toNat) else []
theorem copL_of {x d : Nat} (hd : d ≤ 16) (hx : x + 1 < 2 ^ (d + 1)) : copL (x : Int) ((2 ^ d : Nat) : Int) = cops x ((2 ^ d : Nat) : Int) (lev x) (d - lev x) := by
  rw [copL, if_pos (by rw [isOf_nat hd, decide_eq_true hx]), Int.toNat_natCast, Int.toNat_natCast, Nat.log2_two_pow]
theorem copL_off {x n : Int} (h : isOf x n = false) : copL x n = [] := by rw [copL, if_neg (by rw [h]; simp)]
set_option maxRecDepth 100000 in
set_option maxHeartbeats 1000000 in
theorem rcopath_any (x n : Int) (w : World) (h1 : -9223372036854775808 ≤ n) (h2 : n ≤ 9223372036854775807) :
    Calls Try.prog 32 #[.int .i64 x, .int .i64 n] w fun e w' => ∃ v, e = .returned v ∧ Own w' w.heap.size 3 v (ivs .i64 (copL x n)) ∧ Below w.heap.size w w' := by
  by_cases ho : isOf x n = true
  · obtain ⟨m, d, rfl, rfl, hd, hm⟩ := isOf_out ho
    have D := fun w => down_on m d hd hm w
    have h17 := two_pow_le (show d + 1 ≤ 17 by omega)
    have hl := (lev_root hm (lev_is (x := m) (by omega))).1
    rw [copL_of hd hm]
    have g0 := dnodes_at m d (d - lev m + 1)
    have S := fun (y : Int) w => rsib_any y ((2 ^ d : Nat) : Int) w h1 h2
    obtain ⟨n, hn⟩ : ∃ n, n = 2 ^ d := ⟨_, rfl⟩
    rw [← hn] at S D ⊢
    obtain ⟨l, hl'⟩ : ∃ l, l = lev m := ⟨_, rfl⟩
    rw [← hl'] at D hl g0 ⊢
    obtain ⟨k, hk⟩ : ∃ k, k = d - l := ⟨_, rfl⟩
    rw [← hk] at D g0 ⊢
    have hk16 : k ≤ 16 := by omega
    have hkd : d = l + k := by omega
    have HKD := Lib.hid hkd
    have HD := Lib.hid D
    have HG := Lib.hid g0
    have HS := Lib.hid S
    clear D g0 hk hl hl' ho hm h17 h1 h2 hkd S hn
    go_enter Try.func32, Try.ntmps32
    go_wp2_with fail
    refine (HD.out _).mono ?_
    rintro e w1 ⟨v, rfl, hown, hb⟩
    obtain ⟨g, cap, rfl, hg, hgl, hn, hmx, hc, -⟩ := hown.out (by omega)
    have HC := Lib.hid hc
    have HB := Lib.hid hb
    clear hc hown hb
    go_wp2_with fail
    go_loopg [6, 7] k (fun q out i wr => ∃ r : Nat, r + q = k ∧ i = .int .i64 ((k : Int) - r) ∧ Own wr w1.heap.size 3 out (ivs .i64 (cops m n l r)) ∧ Below w1.heap.size w1 wr)
    case atStart =>
      refine ⟨0, by omega, val_int ?_, Own.nil _ _ _, Below.refl _ _⟩
      omega
    case round =>
      obtain ⟨r, hr, rfl, hown, hb1⟩ := hrel
      have HO := Lib.hid hown
      have HB1 := Lib.hid hb1
      have hsz := hb1.size
      clear hown hb1
      by_cases hrk : r < k
      · obtain ⟨j, hj⟩ : ∃ j, k = r + 1 + j := ⟨k - r - 1, by omega⟩
        have ej : (k : Int) - r = (j : Int) + 1 := by omega
        rw [ej]
        have c0 := HC.out _ _ (HG.out (j + 1) (by omega))
        rw [← HB1.out.cell (p := ⟨g, (j + 1) * 3, none⟩) hgl] at c0
        rw [show d - (j + 1) = l + r by have := HKD.out; omega] at c0
        have hS := HS.out (anc m (l + r) : Nat)
        obtain ⟨a, ha⟩ : ∃ a, a = anc m (l + r) := ⟨_, rfl⟩
        rw [← ha] at c0 hS
        obtain ⟨s, hs⟩ : ∃ s, s = sibZ (a : Int) n := ⟨_, rfl⟩
        rw [← hs] at hS
        have hjk : j + 1 < k + 1 := by omega
        have HS1 := Lib.hid hS
        have HA := Lib.hid ha
        have HSS := Lib.hid hs
        have EJ := Lib.hid ej
        have HJ := Lib.hid hj
        clear ha ej hj hS hs
        go_wp2_with fail
        refine (HS1.out _).mono ?_
        rintro e w2 ⟨rfl, hb2⟩
        have HB2 := Lib.hid (HB1.out.trans (hb2.mono hsz))
        have HO2 := Lib.hid (HO.out.below hb2 (Nat.le_refl _))
        have hsz2 := HB2.out.size
        clear hb2
        go_wp2_with (at_builtin; refine wpList_push rfl (.tmp 18) (.tmp 26) 35 rfl w1.heap.size 3 _ 8 intsE _ _ rfl (HO2.out.alloc _) ⟨w2.heap.size, 0, none⟩ (.int .i64 s) rfl ?c1 rfl ?c2 ?c3 ?_)
        case c1 => exact cell_new rfl
        case c2 => rw [ivs_len, cops_len]; omega
        case c3 => simp; omega
        rintro v' w3 hown1 - hb3
        have HO3 := Lib.hid hown1
        have HB3 := Lib.hid hb3
        clear hown1 hb3
        go_wp2_with fail
        go_roundg (gk - 1)
        case measure => omega
        case rel =>
          refine ⟨r + 1, by omega, val_int ?_, ?_, ?_⟩
          · have := HJ.out; omega
          · rw [cops_snoc, ivs_snoc, ← HA.out, ← HSS.out]
            exact HO3.out
          · exact (HB2.out.alloc hsz2 _).trans HB3.out
      · obtain rfl : r = k := by omega
        go_wp2_with fail
        go_ret
        exact ⟨_, rfl, HO.out.mono HB.out.size, HB.out.trans (HB1.out.mono HB.out.size)⟩
  · have hf : isOf x n = false := by rw [← Bool.not_eq_true]; exact ho
    rw [copL_off hf]
    have HD := Lib.hid (fun w => down_off x n w h1 h2 hf)
    clear hf ho h1 h2
    go_enter Try.func32, Try.ntmps32
    go_wp2_with fail
    refine (HD.out _).mono ?_
    rintro e w1 ⟨rfl, rfl⟩
    go_wp2_with fail
    go_loopg [6, 7] 0 (fun q out i wr => i = .int .i64 (-1) ∧ out = .slice none 0 0 ∧ wr = w)
    case atStart => exact ⟨rfl, rfl, rfl⟩
    case round =>
      obtain ⟨rfl, rfl, rfl⟩ := hrel
      go_wp2_with fail
      go_ret
      exact ⟨_, rfl, Own.nil _ _ _, Below.refl _ _⟩
set_option maxRecDepth 100000 in
set_option maxHeartbeats 1000000 in
theorem copath_any (x n : Int) (w : World) (h1 : -9223372036854775808 ≤ n) (h2 : n ≤ 9223372036854775807) :
    Calls Try.prog 31 #[.int .i64 x, .int .i64 n] w fun e w' => ∃ v, e = .returned v ∧ Own w' w.heap.size 3 v (ivs .i64 (copL x n)) ∧ Below w.heap.size w w' := by
  by_cases ho : isOf x n = true
  · obtain ⟨m, d, rfl, rfl, hd, hm⟩ := isOf_out ho
    have D := fun w => path_any m d hd hm w
    have h17 := two_pow_le (show d + 1 ≤ 17 by omega)
    have hlv := lev_is (x := m) (by omega)
    have hl := (lev_root hm hlv).1
    have hself := anc_self hlv
    rw [copL_of hd hm]
    have S := fun (y : Int) w => sibling_any y ((2 ^ d : Nat) : Int) w h1 h2
    obtain ⟨n, hn⟩ : ∃ n, n = 2 ^ d := ⟨_, rfl⟩
    rw [← hn] at S D ⊢
    obtain ⟨l, hl'⟩ : ∃ l, l = lev m := ⟨_, rfl⟩
    rw [← hl'] at D hl hself ⊢
    obtain ⟨k, hk⟩ : ∃ k, k = d - l := ⟨_, rfl⟩
    rw [← hk] at D ⊢
    have hk16 : k ≤ 16 := by omega
    have HD := Lib.hid D
    have HS := Lib.hid S
    have HSELF := Lib.hid hself
    clear D hk hl hl' ho hm h17 h1 h2 S hn hlv hself
    go_enter Try.func31, Try.ntmps31
    go_wp2_with fail
    refine (HD.out _).mono ?_
    rintro e w1 ⟨v, rfl, hown, hb⟩
    have HB := Lib.hid hb
    obtain ⟨a, cap, rfl, hcap1, hcap2, hrd⟩ := hown.rd
    have hlt := hown.rd.lt
    rw [nvs_len, ups_len] at hcap1 hlt ⊢
    have HRD := Lib.hid hrd
    have HLT := Lib.hid hlt
    clear hown hb hrd hlt
    go_wp2_with fail
    go_loopg [0, 5, 12] k (fun q y out i wr => ∃ r : Nat, r + q = k ∧ i = .int .i64 (r : Int) ∧ y = .int .i64 (anc m (l + r) : Nat) ∧ Own wr w1.heap.size 3 out (ivs .i64 (cops m n l r)) ∧ Below w1.heap.size w1 wr)
    case atStart =>
      refine ⟨0, by omega, rfl, val_int ?_, Own.nil _ _ _, Below.refl _ _⟩
      rw [Nat.add_zero, HSELF.out]
    case round =>
      obtain ⟨r, hr, rfl, rfl, hown, hb1⟩ := hrel
      have HO := Lib.hid hown
      have HB1 := Lib.hid hb1
      have hsz := hb1.size
      clear hown hb1
      by_cases hrk : r < k
      · obtain ⟨b, off, rfl, hbl, c0⟩ : ∃ b off, a = some ⟨b, off, none⟩ ∧ b < w1.heap.size ∧ w1.cell? ⟨b, off + r, none⟩ = some (.int .i64 (anc m (l + r + 1) : Nat)) := by
          have e1 : ∀ j k, r + j + 1 = k → (nvs (ups m l k))[r]? = some (.int .i64 (anc m (l + r + 1) : Nat)) := by
            intro j
            induction j with
            | zero =>
              intro k hk
              rw [← hk, Nat.add_zero, ups_snoc, nvs_snoc, List.getElem?_append_right (by rw [nvs_len, ups_len]; omega), nvs_len, ups_len, Nat.sub_self]
              rfl
            | succ j ih =>
              intro k hk
              rw [← hk, ups_snoc, nvs_snoc, List.getElem?_append_left (by rw [nvs_len, ups_len]; omega)]
              exact ih _ (by omega)
          have e2 := e1 (k - r - 1) k (by omega)
          rcases HRD.out with ⟨h0, _⟩ | ⟨b, off, rfl, hc⟩
          · rw [h0] at e2; simp at e2
          · rcases HLT.out with h0 | ⟨b', off', cap', he, hb'⟩
            · rw [h0] at e2; simp at e2
            · simp only [Value.slice.injEq, Option.some.injEq, Addr.mk.injEq] at he
              exact ⟨b, off, rfl, by omega, hc r _ e2⟩
        rw [← HB1.out.cell (p := ⟨b, off + r, none⟩) hbl] at c0
        have hS := HS.out (anc m (l + r) : Nat)
        obtain ⟨a, ha⟩ : ∃ a, a = anc m (l + r) := ⟨_, rfl⟩
        rw [← ha] at hS ⊢
        obtain ⟨s, hs⟩ : ∃ s, s = sibZ (a : Int) n := ⟨_, rfl⟩
        rw [← hs] at hS
        obtain ⟨u, hu⟩ : ∃ a, a = anc m (l + r + 1) := ⟨_, rfl⟩
        rw [← hu] at c0
        have HS1 := Lib.hid hS
        have HA := Lib.hid ha
        have HU := Lib.hid hu
        have HSS := Lib.hid hs
        clear ha hS hs hu
        go_wp2_with fail
        refine (HS1.out _).mono ?_
        rintro e w2 ⟨rfl, q2, rfl⟩
        go_wp2_with (at_builtin; refine wpList_push rfl (.tmp 16) (.tmp 20) 35 rfl w1.heap.size 3 _ 8 intsE _ _ rfl ((HO.out.drewN _).alloc _) ⟨wr.heap.size, 0, none⟩ (.int .i64 s) rfl ?c1 rfl ?c2 ?c3 ?_)
        case c1 => exact cell_new rfl
        case c2 => rw [ivs_len, cops_len]; omega
        case c3 => simp; omega
        rintro v' w3 hown1 - hb3
        have HO3 := Lib.hid hown1
        have HB3 := Lib.hid hb3
        clear hown1 hb3
        go_wp2_with fail
        go_roundg (gk - 1)
        case measure => omega
        case rel =>
          refine ⟨r + 1, by omega, by go_num, val_int ?_, ?_, ?_⟩
          · rw [HU.out]; rfl
          · rw [cops_snoc, ivs_snoc, ← HA.out, ← HSS.out]
            exact HO3.out
          · exact ((below_drewN' HB1.out _).alloc hsz _).trans HB3.out
      · obtain rfl : r = k := by omega
        go_wp2_with fail
        go_ret
        exact ⟨_, rfl, HO.out.mono HB.out.size, HB.out.trans (HB1.out.mono HB.out.size)⟩
  · have hf : isOf x n = false := by rw [← Bool.not_eq_true]; exact ho
    rw [copL_off hf]
    have HD := Lib.hid (fun w => path_off x n w h1 h2 hf)
    clear hf ho h1 h2
    go_enter Try.func31, Try.ntmps31
    go_wp2_with fail
    refine (HD.out _).mono ?_
    rintro e w1 ⟨rfl, k, rfl⟩
    go_wp2_with fail
    go_loopg [0, 5, 12] 0 (fun q y out i wr => i = .int .i64 0 ∧ out = .slice none 0 0 ∧ wr = w.drewN k)
    case atStart => exact ⟨rfl, rfl, rfl⟩
    case round =>
      obtain ⟨rfl, rfl, rfl⟩ := hrel
      go_wp2_with fail
      go_ret
      exact ⟨_, rfl, Own.nil _ _ _, below_drewN' (Below.refl _ _) _⟩
end Go.Proofs.Ytbjfacfphgnhpaa
