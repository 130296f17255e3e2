/- Walks: hash.Stands, the document's Stands, the law HashStands. -/
import Derived.Test.YtngealmhgkoaiaaGreatZHashStands39
import Derived.Test.YtngealmhgkoaiaaGreatZHashStands31
import Derived.Test.YtngealmhgkoaiaaGreatZHashStands32
import Derived.Test.YtngealmhgkoaiaaGreatZHashStands21
namespace Go.Proofs.YtngealmhgkoaiaaGreat
open Go.RowKit WalkM ShaM WireM
set_option linter.unusedVariables false
theorem kids_of {t : List NodeD} (hs : t.length ≤ 100) (hr : rightT t = true) {p : Nat} (hp : p < t.length) (hk : (nd t p).kind = 2) :
  ∃ l r : Nat, leftZ (p : Int) = (l : Int) ∧ rightZ (p : Int) = (r : Int) ∧ l < t.length ∧ r < t.length ∧ l + r ≤ 1000 := by
 have hpl := ((placedB_iff t).1 (right_placedT hr) p hp).1
 obtain ⟨hl, hx⟩ := lev_inT (by omega) hr hp
 rcases Nat.eq_zero_or_pos (lev p) with h0 | h0
 ·rw [h0] at hl
  rw [otherK_even (lev_zero hl)] at hpl
  exact absurd hk hpl
 ·obtain ⟨k, hk2⟩ : ∃ k, lev p = k + 1 := ⟨lev p - 1, by omega⟩
  rw [hk2] at hl hx
  have e2 : 2 ^ (k + 1) = 2 * 2 ^ k := by rw [Nat.pow_succ]; omega
  have hp0 : 0 < 2 ^ k := Nat.two_pow_pos k
  obtain ⟨k1, k2, k3, k4, k5⟩ := kids_lev (by omega) hl
  exact ⟨_, _, k1, k2, by omega, by omega, by omega⟩
/-- does a parent stand? -/
def standB (t : List NodeD) (p : Nat) : Bool :=
 !(decide ((nd t p).kind = 2) && (!linkB t p (leftZ (p : Int)).toNat (rightZ (p : Int)).toNat && !linkB t p (rightZ (p : Int)).toNat (leftZ (p : Int)).toNat))
def standsB (t : List NodeD) : Bool := (List.range t.length).all (standB t)
theorem all_yes {n : Nat} {f : Nat → Bool} (h : ∀ i, i < n → f i = true) : (List.range n).all f = true := List.all_eq_true.2 fun i hi => h i (List.mem_range.1 hi)
theorem all_not {n i : Nat} {f : Nat → Bool} (hi : i < n) (h : f i = false) : (List.range n).all f = false := by
 cases hb : (List.range n).all f with
 | false => rfl
 | true => rw [List.all_eq_true.1 hb i (List.mem_range.2 hi)] at h; cases h
set_option maxRecDepth 100000 in
set_option maxHeartbeats 8000000 in
theorem stands_any (v : Value) (t : List NodeD) (w : World) (h : TreeR w v t) (hs : smallT t = true) (hok : TreeOk t) (hr : rightT t = true) :
  Calls Tryz.prog 24 #[v] w fun e w' => e = .returned (.bool (standsB t)) ∧ Below w.heap.size w w' := by
 have hlen := smallT_len hs
 obtain ⟨ta, tc, rfl, hc, hc2⟩ := h.sl
 have TB := fun (W : World) (hw : Below w.heap.size w W) => h.below hw (Nat.le_refl _)
 have TR := tright_any _ t w (TB w (Below.refl _ _)) hs hok
 rw [hr] at TR
 have KO := fun (p : Nat) (hp : p < t.length) (hk : (nd t p).kind = 2) => (show ∃ l r : Nat, leftZ (p : Int) = (l : Int) ∧ rightZ (p : Int) = (r : Int) ∧
   (∀ W, Below w.heap.size w W → Calls Tryz.prog 82 #[.slice ta t.length tc, .int .i64 (p : Nat), .int .i64 (l : Nat)] W fun e w' => e = .returned (.bool (linkB t p l r)) ∧ Below W.heap.size W w') ∧
   (∀ W, Below w.heap.size w W → Calls Tryz.prog 82 #[.slice ta t.length tc, .int .i64 (p : Nat), .int .i64 (r : Nat)] W fun e w' => e = .returned (.bool (linkB t p r l)) ∧ Below W.heap.size W w') ∧
   standB t p = !(!linkB t p l r && !linkB t p r l) from by
  obtain ⟨l, r, e1, e2, hl, hr2, hsz⟩ := kids_of (by omega) hr hp hk
  refine ⟨l, r, e1, e2, fun W hw => ?_, fun W hw => ?_, ?_⟩
  ·exact linked_any _ t p l r l r W (TB W hw) hs hok hr hp hl hr2 e1 e2 (by omega) hsz
  ·exact linked_any _ t p l r r l W (TB W hw) hs hok hr hp hr2 hl e1 e2 (by omega) hsz
  ·unfold standB; rw [e1, e2, decide_eq_true hk, Int.toNat_natCast, Int.toNat_natCast, Bool.true_and])
 have NK := fun (p : Nat) (hk : (nd t p).kind ≠ 2) => (show standB t p = true by unfold standB; rw [decide_eq_false hk]; rfl)
 have YES := fun (h : ∀ i, i < t.length → standB t i = true) => (show standsB t = true from all_yes h)
 have NO := fun (i : Nat) (hi : i < t.length) (h : standB t i = false) => (show standsB t = false from all_not hi h)
 have AT := fun (W : World) (hw : Below w.heap.size w W) (i : Nat) (hi : i < t.length) => (TB W hw).at hi
 have KB := fun (i : Nat) => (hok.nd i).kind
 have LF := fun (p : Nat) (W : World) => wleft_any (p : Int) W
 have RT := fun (p : Nat) (W : World) => wright_any (p : Int) W
 obtain ⟨R, hR⟩ : ∃ R, R = standsB t := ⟨_, rfl⟩
 rw [← hR] at YES NO ⊢
 obtain ⟨SB, hSB⟩ : ∃ S, S = standB t := ⟨_, rfl⟩
 rw [← hSB] at KO NK YES NO
 obtain ⟨LB, hLB⟩ : ∃ L, L = linkB t := ⟨_, rfl⟩
 rw [← hLB] at KO
 obtain ⟨n, hn⟩ : ∃ n, n = t.length := ⟨_, rfl⟩
 rw [← hn] at TR KO YES NO AT hc hlen ⊢
 have HKO := Lib.hid KO
 have HNK := Lib.hid NK
 have HYES := Lib.hid YES
 have HNO := Lib.hid NO
 have HAT := Lib.hid AT
 have HKB := Lib.hid KB
 have HLF := Lib.hid LF
 have HTR := Lib.hid TR
 have HRT := Lib.hid RT
 clear TR KO NK YES NO AT KB LF TB RT hn hLB hSB hR h hs hok hr
 go_enter Tryz.func24, Tryz.ntmps24
 go_wp2_with fail
 refine HTR.out.mono ?_
 rintro e w1 ⟨rfl, hb1⟩
 have HB1 := Lib.hid hb1
 clear hb1
 go_wp2_with fail
 go_loopg [9] n (fun q iv wr => ∃ p : Nat, p + q = n ∧ iv = .int .i64 (p : Nat) ∧ Below w.heap.size w wr ∧ ∀ j, j < p → SB j = true)
 case atStart => exact ⟨0, by omega, rfl, HB1.out, fun j hj => by omega⟩
 case round =>
  obtain ⟨p, hp, rfl, hb, hall⟩ := hrel
  have HP := Lib.hid hp
  have HB := Lib.hid hb
  have HALL := Lib.hid hall
  clear hp hb hall
  by_cases hlt : p < n
  ·have hlt' : decide (p < n) = true := decide_eq_true hlt
   have hltI : (p : Int) < (n : Int) := by omega
   obtain ⟨b, off, lb, le, e0, hbl, ck, -, -⟩ := HAT.out wr HB.out p hlt
   subst e0
   have hkb := HKB.out p
   obtain ⟨kd, hkd⟩ : ∃ k, k = (nd t p).kind := ⟨_, rfl⟩
   rw [← hkd] at ck hkb
   have HKD := Lib.hid hkd
   clear hkd hbl
   by_cases hk2 : kd = 2
   ·subst hk2
    obtain ⟨l, r, el, er, C1, C2, hst⟩ := HKO.out p hlt HKD.out.symm
    have HC1 := Lib.hid C1
    have HC2 := Lib.hid C2
    have HST := Lib.hid hst
    have HLFL := Lib.hid fun W => HLF.out p W
    have HLFR := Lib.hid fun W => HRT.out p W
    rw [el] at HLFL
    rw [er] at HLFR
    clear el er
    clear C1 C2 hst hkb
    cases h1 : LB p l r with
    | true =>
     have HS1 := Lib.hid (show SB p = true by rw [HST.out, h1]; rfl)
     rw [h1] at HC1
     clear h1
     go_wp2_with fail
     refine (HLFL.out wr).mono ?_
     rintro e w' ⟨rfl, rfl⟩
     go_wp2_with fail
     refine (HC1.out wr HB.out).mono ?_
     rintro e w2 ⟨rfl, hb2⟩
     have HB2 := Lib.hid (HB.out.trans (hb2.mono HB.out.size))
     clear hb2
     go_wp2_with fail
     go_roundg (gk - 1)
     case measure => have := HP.out; omega
     case rel =>
      refine ⟨p + 1, by have := HP.out; omega, by go_num, HB2.out, fun j hj => ?_⟩
      by_cases e : j = p
      ·rw [e]; exact HS1.out
      ·exact HALL.out j (by omega)
    | false =>
     rw [h1] at HC1
     cases h2 : LB p r l with
     | true =>
      have HS1 := Lib.hid (show SB p = true by rw [HST.out, h2]; simp)
      rw [h2] at HC2
      clear h1 h2
      go_wp2_with fail
      refine (HLFL.out wr).mono ?_
      rintro e w' ⟨rfl, rfl⟩
      go_wp2_with fail
      refine (HC1.out wr HB.out).mono ?_
      rintro e w2 ⟨rfl, hb2⟩
      have HB2 := Lib.hid (HB.out.trans (hb2.mono HB.out.size))
      clear hb2
      go_wp2_with fail
      refine (HLFR.out w2).mono ?_
      rintro e w' ⟨rfl, rfl⟩
      go_wp2_with fail
      refine (HC2.out w2 HB2.out).mono ?_
      rintro e w4 ⟨rfl, hb4⟩
      have HB4 := Lib.hid (HB2.out.trans (hb4.mono HB2.out.size))
      clear hb4
      go_wp2_with fail
      go_roundg (gk - 1)
      case measure => have := HP.out; omega
      case rel =>
       refine ⟨p + 1, by have := HP.out; omega, by go_num, HB4.out, fun j hj => ?_⟩
       by_cases e : j = p
       ·rw [e]; exact HS1.out
       ·exact HALL.out j (by omega)
     | false =>
      have HS1 := Lib.hid (HNO.out p hlt (by rw [HST.out, h1, h2]; rfl))
      rw [h2] at HC2
      clear h1 h2
      go_wp2_with fail
      refine (HLFL.out wr).mono ?_
      rintro e w' ⟨rfl, rfl⟩
      go_wp2_with fail
      refine (HC1.out wr HB.out).mono ?_
      rintro e w2 ⟨rfl, hb2⟩
      have HB2 := Lib.hid (HB.out.trans (hb2.mono HB.out.size))
      clear hb2
      go_wp2_with fail
      refine (HLFR.out w2).mono ?_
      rintro e w' ⟨rfl, rfl⟩
      go_wp2_with fail
      refine (HC2.out w2 HB2.out).mono ?_
      rintro e w4 ⟨rfl, hb4⟩
      have HB4 := Lib.hid (HB2.out.trans (hb4.mono HB2.out.size))
      clear hb4
      go_wp2_with fail
      go_ret
      exact ⟨by rw [HS1.out]; rfl, HB4.out⟩
   ·have HS1 := Lib.hid (HNK.out p (by rw [← HKD.out]; exact hk2))
    have hne : ((kd : Int) == 2) = false := by rw [beq_eq_false_iff_ne]; omega
    have hne2 : ¬ ((kd : Int) = 2) := by omega
    clear hk2 hkb
    go_wp2_with fail
    go_roundg (gk - 1)
    case measure => have := HP.out; omega
    case rel =>
     refine ⟨p + 1, by have := HP.out; omega, by go_num, HB.out, fun j hj => ?_⟩
     by_cases e : j = p
     ·rw [e]; exact HS1.out
     ·exact HALL.out j (by omega)
  ·obtain rfl : p = n := by have := HP.out; omega
   have hlt' : decide (p < p) = false := decide_eq_false hlt
   have HF := Lib.hid (HYES.out HALL.out)
   clear hlt
   go_wp2_with fail
   go_ret
   exact ⟨by rw [HF.out]; rfl, HB.out⟩
set_option maxRecDepth 100000 in
set_option maxHeartbeats 8000000 in
theorem rstands_any (v : Value) (t : List NodeD) (w : World) (h : TreeR w v t) (hs : smallT t = true) (hok : TreeOk t) (hr : rightT t = true) :
  Calls Tryz.prog 25 #[v] w fun e w' => e = .returned (.bool (standsB t)) ∧ Below w.heap.size w w' := by
 have hlen := smallT_len hs
 obtain ⟨ta, tc, rfl, hc, hc2⟩ := h.sl
 have TB := fun (W : World) (hw : Below w.heap.size w W) => h.below hw (Nat.le_refl _)
 have KO := fun (p : Nat) (hp : p < t.length) (hk : (nd t p).kind = 2) => (show ∃ l r : Nat, leftZ (p : Int) = (l : Int) ∧ rightZ (p : Int) = (r : Int) ∧
   (∀ W, Below w.heap.size w W → Calls Tryz.prog 86 #[.slice ta t.length tc, .int .i64 (p : Nat), .int .i64 (l : Nat), .int .i64 (r : Nat)] W fun e w' => e = .returned (.bool (linkB t p l r)) ∧ Below W.heap.size W w') ∧
   (∀ W, Below w.heap.size w W → Calls Tryz.prog 86 #[.slice ta t.length tc, .int .i64 (p : Nat), .int .i64 (r : Nat), .int .i64 (l : Nat)] W fun e w' => e = .returned (.bool (linkB t p r l)) ∧ Below W.heap.size W w') ∧
   standB t p = !(!linkB t p l r && !linkB t p r l) from by
  obtain ⟨l, r, e1, e2, hl, hr2, hsz⟩ := kids_of (by omega) hr hp hk
  refine ⟨l, r, e1, e2, fun W hw => ?_, fun W hw => ?_, ?_⟩
  ·rw [link_eq (by omega) hr hp hl]; exact rlinked_any _ t p l r W (TB W hw) hs hok hr hp hl hr2
  ·rw [link_eq (by omega) hr hp hr2]; exact rlinked_any _ t p r l W (TB W hw) hs hok hr hp hr2 hl
  ·unfold standB; rw [e1, e2, decide_eq_true hk, Int.toNat_natCast, Int.toNat_natCast, Bool.true_and])
 have NK := fun (p : Nat) (hk : (nd t p).kind ≠ 2) => (show standB t p = true by unfold standB; rw [decide_eq_false hk]; rfl)
 have YES := fun (h : ∀ i, i < t.length → standB t i = true) => (show standsB t = true from all_yes h)
 have NO := fun (i : Nat) (hi : i < t.length) (h : standB t i = false) => (show standsB t = false from all_not hi h)
 have AT := fun (W : World) (hw : Below w.heap.size w W) (i : Nat) (hi : i < t.length) => (TB W hw).at hi
 have KB := fun (i : Nat) => (hok.nd i).kind
 have LF := fun (p : Nat) (W : World) => kids_any (p : Int) W
 obtain ⟨R, hR⟩ : ∃ R, R = standsB t := ⟨_, rfl⟩
 rw [← hR] at YES NO ⊢
 obtain ⟨SB, hSB⟩ : ∃ S, S = standB t := ⟨_, rfl⟩
 rw [← hSB] at KO NK YES NO
 obtain ⟨LB, hLB⟩ : ∃ L, L = linkB t := ⟨_, rfl⟩
 rw [← hLB] at KO
 obtain ⟨n, hn⟩ : ∃ n, n = t.length := ⟨_, rfl⟩
 rw [← hn] at KO YES NO AT hc hlen ⊢
 have HKO := Lib.hid KO
 have HNK := Lib.hid NK
 have HYES := Lib.hid YES
 have HNO := Lib.hid NO
 have HAT := Lib.hid AT
 have HKB := Lib.hid KB
 have HLF := Lib.hid LF
 clear KO NK YES NO AT KB LF TB hn hLB hSB hR h hs hok hr
 go_enter Tryz.func25, Tryz.ntmps25
 go_wp2_with fail
 go_loopg [3] n (fun q iv wr => ∃ p : Nat, p + q = n ∧ iv = .int .i64 (p : Nat) ∧ Below w.heap.size w wr ∧ ∀ j, j < p → SB j = true)
 case atStart => exact ⟨0, by omega, rfl, Below.refl _ _, fun j hj => by omega⟩
 case round =>
  obtain ⟨p, hp, rfl, hb, hall⟩ := hrel
  have HP := Lib.hid hp
  have HB := Lib.hid hb
  have HALL := Lib.hid hall
  clear hp hb hall
  by_cases hlt : p < n
  ·have hlt' : decide (p < n) = true := decide_eq_true hlt
   have hltI : (p : Int) < (n : Int) := by omega
   obtain ⟨zl, hzl⟩ : ∃ z, z = leftZ (p : Int) := ⟨_, rfl⟩
   obtain ⟨zr, hzr⟩ : ∃ z, z = rightZ (p : Int) := ⟨_, rfl⟩
   have HCK := Lib.hid (HLF.out p wr)
   rw [← hzl, ← hzr] at HCK
   have HZL := Lib.hid hzl
   have HZR := Lib.hid hzr
   clear hzl hzr
   go_wp2_with fail
   refine HCK.out.mono ?_
   rintro e w1 ⟨rfl, hb1⟩
   have HB1 := Lib.hid (HB.out.trans (hb1.mono HB.out.size))
   clear hb1
   obtain ⟨b, off, lb, le, e0, hbl, ck, -, -⟩ := HAT.out w1 HB1.out p hlt
   subst e0
   have hkb := HKB.out p
   obtain ⟨kd, hkd⟩ : ∃ k, k = (nd t p).kind := ⟨_, rfl⟩
   rw [← hkd] at ck hkb
   have HKD := Lib.hid hkd
   clear hkd hbl
   by_cases hk2 : kd = 2
   ·subst hk2
    obtain ⟨l, r, el, er, C1, C2, hst⟩ := HKO.out p hlt HKD.out.symm
    have HC1 := Lib.hid C1
    have HC2 := Lib.hid C2
    have HST := Lib.hid hst
    rw [← HZL.out] at el
    rw [← HZR.out] at er
    subst el er
    clear C1 C2 hst hkb
    cases h1 : LB p l r with
    | true =>
     have HS1 := Lib.hid (show SB p = true by rw [HST.out, h1]; rfl)
     rw [h1] at HC1
     clear h1
     go_wp2_with fail
     refine (HC1.out w1 HB1.out).mono ?_
     rintro e w2 ⟨rfl, hb2⟩
     have HB2 := Lib.hid (HB1.out.trans (hb2.mono HB1.out.size))
     clear hb2
     go_wp2_with fail
     go_roundg (gk - 1)
     case measure => have := HP.out; omega
     case rel =>
      refine ⟨p + 1, by have := HP.out; omega, by go_num, HB2.out, fun j hj => ?_⟩
      by_cases e : j = p
      ·rw [e]; exact HS1.out
      ·exact HALL.out j (by omega)
    | false =>
     rw [h1] at HC1
     cases h2 : LB p r l with
     | true =>
      have HS1 := Lib.hid (show SB p = true by rw [HST.out, h2]; simp)
      rw [h2] at HC2
      clear h1 h2
      go_wp2_with fail
      refine (HC1.out w1 HB1.out).mono ?_
      rintro e w2 ⟨rfl, hb2⟩
      have HB2 := Lib.hid (HB1.out.trans (hb2.mono HB1.out.size))
      clear hb2
      go_wp2_with fail
      refine (HC2.out w2 HB2.out).mono ?_
      rintro e w4 ⟨rfl, hb4⟩
      have HB4 := Lib.hid (HB2.out.trans (hb4.mono HB2.out.size))
      clear hb4
      go_wp2_with fail
      go_roundg (gk - 1)
      case measure => have := HP.out; omega
      case rel =>
       refine ⟨p + 1, by have := HP.out; omega, by go_num, HB4.out, fun j hj => ?_⟩
       by_cases e : j = p
       ·rw [e]; exact HS1.out
       ·exact HALL.out j (by omega)
     | false =>
      have HS1 := Lib.hid (HNO.out p hlt (by rw [HST.out, h1, h2]; rfl))
      rw [h2] at HC2
      clear h1 h2
      go_wp2_with fail
      refine (HC1.out w1 HB1.out).mono ?_
      rintro e w2 ⟨rfl, hb2⟩
      have HB2 := Lib.hid (HB1.out.trans (hb2.mono HB1.out.size))
      clear hb2
      go_wp2_with fail
      refine (HC2.out w2 HB2.out).mono ?_
      rintro e w4 ⟨rfl, hb4⟩
      have HB4 := Lib.hid (HB2.out.trans (hb4.mono HB2.out.size))
      clear hb4
      go_wp2_with fail
      go_ret
      exact ⟨by rw [HS1.out]; rfl, HB4.out⟩
   ·have HS1 := Lib.hid (HNK.out p (by rw [← HKD.out]; exact hk2))
    have hne : ((kd : Int) == 2) = false := by rw [beq_eq_false_iff_ne]; omega
    have hne2 : ¬ ((kd : Int) = 2) := by omega
    clear hk2 hkb
    go_wp2_with fail
    go_roundg (gk - 1)
    case measure => have := HP.out; omega
    case rel =>
     refine ⟨p + 1, by have := HP.out; omega, by go_num, HB1.out, fun j hj => ?_⟩
     by_cases e : j = p
     ·rw [e]; exact HS1.out
     ·exact HALL.out j (by omega)
  ·obtain rfl : p = n := by have := HP.out; omega
   have hlt' : decide (p < p) = false := decide_eq_false hlt
   have HF := Lib.hid (HYES.out HALL.out)
   clear hlt
   go_wp2_with fail
   go_ret
   exact ⟨by rw [HF.out]; rfl, HB.out⟩
set_option maxRecDepth 100000 in
set_option maxHeartbeats 2000000 in
theorem stands_no (v : Value) (t : List NodeD) (w : World) (h : TreeR w v t) (hs : smallT t = true) (hok : TreeOk t) (hr : rightT t = false) :
  Calls Tryz.prog 24 #[v] w fun e w' => e = .returned (.bool false) ∧ Below w.heap.size w w' := by
 have TR := tright_any v t w h hs hok
 rw [hr] at TR
 have HTR := Lib.hid TR
 obtain ⟨a, c, rfl, -⟩ := h.sl
 clear TR h hs hok hr
 go_enter Tryz.func24, Tryz.ntmps24
 go_wp2_with fail
 refine HTR.out.mono ?_
 rintro e w1 ⟨rfl, hb1⟩
 have HB1 := Lib.hid hb1
 clear hb1
 go_wp2_with fail
 go_ret
 exact ⟨rfl, HB1.out⟩
set_option maxRecDepth 100000 in
set_option maxHeartbeats 16000000 in
theorem hstands_big {w : World} (v : Value) (t : List NodeD) (h : TreeR w v t) (hok : TreeOk t) (hs : smallT t = false) :
  Calls Tryz.prog 4 #[v] w fun e w' => e = .returned (.bool true) ∧ Below w.heap.size w w' := by
 have TB := fun (W : World) (hw : Below w.heap.size w W) => h.below hw (Nat.le_refl _)
 have AL := fun (W : World) (hw : Below w.heap.size w W) => alive18 W
 have SM := fun (W : World) (hw : Below w.heap.size w W) => tsmall_any v t W (TB W hw)
 rw [hs] at SM
 obtain ⟨a, c0, rfl, hc0, hc1⟩ := h.sl
 obtain ⟨n, hn⟩ : ∃ n, n = t.length := ⟨_, rfl⟩
 simp only [← hn] at AL SM ⊢
 have HAL := Lib.hid AL
 have HSM := Lib.hid SM
 clear TB AL SM h hok hn hs
 go_enter Tryz.func4, Tryz.ntmps4
 go_wp2_with fail
 refine (HAL.out w (Below.refl w.heap.size w) ).mono ?_
 rintro e w1 ⟨rfl, hb⟩
 have HB1 := Lib.hid ((Below.refl w.heap.size w).trans (hb.mono ((Below.refl w.heap.size w)).size))
 clear hb
 go_wp2_with fail
 refine (HSM.out w1 HB1.out ).mono ?_
 rintro e w2 ⟨rfl, hb⟩
 have HB2 := Lib.hid (HB1.out.trans (hb.mono (HB1.out).size))
 clear hb
 go_wp2_with fail
 go_ret
 exact ⟨rfl, HB2.out⟩
set_option maxRecDepth 100000 in
set_option maxHeartbeats 16000000 in
theorem hstands_no {w : World} (v : Value) (t : List NodeD) (h : TreeR w v t) (hok : TreeOk t) (hs : smallT t = true) (hr : rightT t = false) :
  Calls Tryz.prog 4 #[v] w fun e w' => e = .returned (.bool true) ∧ Below w.heap.size w w' := by
 have TB := fun (W : World) (hw : Below w.heap.size w W) => h.below hw (Nat.le_refl _)
 have AL := fun (W : World) (hw : Below w.heap.size w W) => alive18 W
 have SM := fun (W : World) (hw : Below w.heap.size w W) => tsmall_any v t W (TB W hw)
 have ST := fun (W : World) (hw : Below w.heap.size w W) => stands_no v t W (TB W hw) hs hok hr
 have RR := fun (W : World) (hw : Below w.heap.size w W) => rtright_any v t W (TB W hw) hs hok
 rw [hs] at SM
 rw [hr] at RR
 obtain ⟨a, c0, rfl, hc0, hc1⟩ := h.sl
 obtain ⟨n, hn⟩ : ∃ n, n = t.length := ⟨_, rfl⟩
 simp only [← hn] at AL SM ST RR ⊢
 have HAL := Lib.hid AL
 have HSM := Lib.hid SM
 have HST := Lib.hid ST
 have HRR := Lib.hid RR
 clear TB AL SM ST RR h hok hn hs hr
 go_enter Tryz.func4, Tryz.ntmps4
 go_wp2_with fail
 refine (HAL.out w (Below.refl w.heap.size w) ).mono ?_
 rintro e w1 ⟨rfl, hb⟩
 have HB1 := Lib.hid ((Below.refl w.heap.size w).trans (hb.mono ((Below.refl w.heap.size w)).size))
 clear hb
 go_wp2_with fail
 refine (HSM.out w1 HB1.out ).mono ?_
 rintro e w2 ⟨rfl, hb⟩
 have HB2 := Lib.hid (HB1.out.trans (hb.mono (HB1.out).size))
 clear hb
 go_wp2_with fail
 refine (HST.out w2 HB2.out ).mono ?_
 rintro e w3 ⟨rfl, hb⟩
 have HB3 := Lib.hid (HB2.out.trans (hb.mono (HB2.out).size))
 clear hb
 go_wp2_with fail
 refine (HRR.out w3 HB3.out ).mono ?_
 rintro e w4 ⟨rfl, hb⟩
 have HB4 := Lib.hid (HB3.out.trans (hb.mono (HB3.out).size))
 clear hb
 go_wp2_with fail
 go_ret
 exact ⟨rfl, HB4.out⟩
set_option maxRecDepth 100000 in
set_option maxHeartbeats 16000000 in
theorem hstands_yes {w : World} (v : Value) (t : List NodeD) (h : TreeR w v t) (hok : TreeOk t) (hs : smallT t = true) (hr : rightT t = true) :
  Calls Tryz.prog 4 #[v] w fun e w' => e = .returned (.bool true) ∧ Below w.heap.size w w' := by
 have TB := fun (W : World) (hw : Below w.heap.size w W) => h.below hw (Nat.le_refl _)
 have AL := fun (W : World) (hw : Below w.heap.size w W) => alive18 W
 have SM := fun (W : World) (hw : Below w.heap.size w W) => tsmall_any v t W (TB W hw)
 have ST := fun (W : World) (hw : Below w.heap.size w W) => stands_any v t W (TB W hw) hs hok hr
 have RS := fun (W : World) (hw : Below w.heap.size w W) => rstands_any v t W (TB W hw) hs hok hr
 have RR := fun (W : World) (hw : Below w.heap.size w W) => rtright_any v t W (TB W hw) hs hok
 rw [hs] at SM
 rw [hr] at RR
 obtain ⟨X, hX⟩ : ∃ X, X = standsB t := ⟨_, rfl⟩
 rw [← hX] at ST RS
 obtain ⟨a, c0, rfl, hc0, hc1⟩ := h.sl
 obtain ⟨n, hn⟩ : ∃ n, n = t.length := ⟨_, rfl⟩
 simp only [← hn] at AL SM ST RS RR ⊢
 have HAL := Lib.hid AL
 have HSM := Lib.hid SM
 have HST := Lib.hid ST
 have HRS := Lib.hid RS
 have HRR := Lib.hid RR
 clear TB AL SM ST RS RR h hok hn hs hr hX
 go_enter Tryz.func4, Tryz.ntmps4
 go_wp2_with fail
 refine (HAL.out w (Below.refl w.heap.size w) ).mono ?_
 rintro e w1 ⟨rfl, hb⟩
 have HB1 := Lib.hid ((Below.refl w.heap.size w).trans (hb.mono ((Below.refl w.heap.size w)).size))
 clear hb
 go_wp2_with fail
 refine (HSM.out w1 HB1.out ).mono ?_
 rintro e w2 ⟨rfl, hb⟩
 have HB2 := Lib.hid (HB1.out.trans (hb.mono (HB1.out).size))
 clear hb
 go_wp2_with fail
 refine (HST.out w2 HB2.out ).mono ?_
 rintro e w3 ⟨rfl, hb⟩
 have HB3 := Lib.hid (HB2.out.trans (hb.mono (HB2.out).size))
 clear hb
 go_wp2_with fail
 refine (HRR.out w3 HB3.out ).mono ?_
 rintro e w4 ⟨rfl, hb⟩
 have HB4 := Lib.hid (HB3.out.trans (hb.mono (HB3.out).size))
 clear hb
 go_wp2_with fail
 refine (HRS.out w4 HB4.out ).mono ?_
 rintro e w5 ⟨rfl, hb⟩
 have HB5 := Lib.hid (HB4.out.trans (hb.mono (HB4.out).size))
 clear hb
 go_wp2_with fail
 go_ret
 exact ⟨rfl, HB5.out⟩
theorem hashStands_walk {w : World} (v : Value) (t : List NodeD) (hop : TreeR w v t ∧ TreeOk t) :
  Calls Tryz.prog 4 #[v] w fun e w' => e = .returned (.bool true) ∧ Below w.heap.size w w' := by
 obtain ⟨h, hok⟩ := hop
 cases hs : smallT t with
 | false => exact hstands_big v t h hok hs
 | true =>
  cases hr : rightT t with
  | false => exact hstands_no v t h hok hs hr
  | true => exact hstands_yes v t h hok hs hr
end Go.Proofs.YtngealmhgkoaiaaGreat
