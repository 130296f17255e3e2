/- Walks: the reference's boxes of all bytes, and the words of a key. -/
import Derived.Test.YtfpjpakjlhidkaaAesWords
import Derived.Test.YtfpjpakjlhidkaaAesRefBox
import Derived.Test.YtfpjpakjlhidkaaAesLaw1
import Derived.Test.YtfpjpakjlhidkaaGrid
namespace Go.Proofs.Ytfpjpakjlhidkaa
open Go.RowKit AesM

/-- Numbers of the kind int as values. -/
def nvs (L : List Nat) : List Value := L.map fun n : Nat => .int .i64 (n : Int)
@[simp] theorem nvs_len (L : List Nat) : (nvs L).length = L.length := by simp [nvs]
theorem nvs_getD {L : List Nat} {i : Nat} (h : i < L.length) : (nvs L)[i]? = some (.int .i64 ((L.getD i 0 : Nat) : Int)) := by simp [nvs, h]
theorem nvs_snoc (L : List Nat) (n : Nat) : nvs (L ++ [n]) = nvs L ++ [.int .i64 (n : Int)] := by simp [nvs]
theorem nvs_ne {L : List Nat} (h : 0 < L.length) : nvs L ≠ [] := by
  intro h'
  have := congrArg List.length h'
  rw [nvs_len] at this
  simp only [List.length_nil] at this
  omega
theorem rbox_boxL {i : Nat} (h : i < 256) : rbox i = boxL.getD i 0 := by
  rw [← rbox_all]
  simp [List.getD, h]
theorem take_snocD {L : List Nat} {i : Nat} (h : i < L.length) : L.take (i + 1) = L.take i ++ [L.getD i 0] := by
  rw [List.take_succ_eq_append_getElem h]
  simp [List.getD_eq_getElem?_getD, h]

set_option maxRecDepth 100000 in
set_option maxHeartbeats 1000000 in
theorem rboxes_any (w : World) :
    Calls Try.prog 18 #[] w fun e w' => ∃ r, e = .returned r ∧ Own w' w.heap.size 3 r (nvs boxL) ∧ Below w.heap.size w w' := by
  go_enter Try.func18, Try.ntmps18
  go_wp2_with fail
  go_loopg [1, 2] 256 (fun k r i wr => ∃ i' : Nat, i' + k = 256 ∧ i = .int .i64 i' ∧ Own wr w.heap.size 3 r (nvs (boxL.take i')) ∧ Below w.heap.size w wr)
  case atStart => exact ⟨0, rfl, rfl, Own.nil _ _ _, Below.refl _ _⟩
  case round =>
    obtain ⟨i, hi, rfl, hown, hbel⟩ := hrel
    have HI := Lib.hid hi
    have HO := Lib.hid hown
    have HB := Lib.hid hbel
    have hsz := hbel.size
    by_cases h : i < 256
    · clear hi hown hbel
      have R := rbox_any i h
      rw [rbox_boxL h] at R
      have hb := getD_lt boxL_lt (by omega) i
      obtain ⟨x, hx⟩ : ∃ x, x = boxL.getD i 0 := ⟨_, rfl⟩
      rw [← hx] at R hb
      have HR := Lib.hid R
      have HX := Lib.hid hx
      clear R hx
      go_wp2_with fail
      refine (HR.out _).mono ?_
      rintro e w2 ⟨rfl, hb2⟩
      have HO2 := Lib.hid (HO.out.below hb2 (Nat.le_refl _))
      have HB2 := Lib.hid hb2
      have hsz2 := hb2.size
      clear hb2
      go_wp2_with (at_builtin; refine wpList_push rfl (.tmp 7) (.tmp 10) 34 rfl w.heap.size 3 _ 8 ints34 _ _ rfl (HO2.out.alloc _) ⟨w2.heap.size, 0, none⟩ (.int .i64 (x : Int)) rfl ?c1 rfl ?c2 ?c3 ?_)
      case c1 => exact cell_new rfl
      case c2 => simp; omega
      case c3 => simp; omega
      rintro v' w1 hown1 hg1 hb1
      clear hg1
      have HO3 := Lib.hid hown1
      have HB3 := Lib.hid hb1
      clear hown1 hb1
      go_wp2_with fail
      go_roundg (gk - 1)
      case measure => have := HI.out; omega
      case rel =>
        refine ⟨i + 1, by have := HI.out; omega, by go_num, ?_, ?_⟩
        · rw [take_snocD (by rw [boxL_len]; exact h), ← HX.out, nvs_snoc]; exact HO3.out
        · exact HB.out.trans (((HB2.out.mono hsz).trans (((Below.refl w.heap.size w2).alloc (by omega) _).trans HB3.out)))
    · obtain rfl : i = 256 := by omega
      clear hi hown hbel
      go_wp2_with fail
      go_ret
      refine ⟨_, rfl, ?_, HB.out⟩
      have := HO.out
      rw [List.take_of_length_le (by rw [boxL_len]; omega)] at this
      exact this

namespace AesM
/-- the first k bytes of the i-th word -/
def rowT (KW : List Nat) (i k : Nat) : List Nat := (List.range k).map fun j => KW.getD (4 * i + j) 0
theorem rowT_len (KW : List Nat) (i k : Nat) : (rowT KW i k).length = k := by simp [rowT]
theorem rowT_get (KW : List Nat) {i k j : Nat} (h : j < k) : (rowT KW i k).getD j 0 = KW.getD (4 * i + j) 0 := by simp [rowT, List.getD_eq_getElem?_getD, h]
theorem rowT_succ (KW : List Nat) (i k : Nat) : rowT KW i (k + 1) = rowT KW i k ++ [KW.getD (4 * i + k) 0] := by simp [rowT, List.range_succ]
def rowsN (KW : List Nat) (n : Nat) : List (List Value) := (List.range n).map fun i => nvs (rowT KW i 4)
theorem rowsN_len (KW : List Nat) (n : Nat) : (rowsN KW n).length = n := by simp [rowsN]
theorem rowsN_get (KW : List Nat) {n i : Nat} (h : i < n) : (rowsN KW n)[i]? = some (nvs (rowT KW i 4)) := by simp [rowsN, h]
theorem rowsN_succ (KW : List Nat) (n : Nat) : rowsN KW (n + 1) = rowsN KW n ++ [nvs (rowT KW n 4)] := by simp [rowsN, List.range_succ]
end AesM
theorem grid36 : Elem Try.prog 36 34 (.slice none 0 0) 24 := ⟨Try.underlying36, by kernel_rfl, rfl, by omega⟩

/-- What a row of a grid of numbers holds. -/
theorem Grid.num {w : World} {B : Nat} {eo ei : TypeId} {go no co : Nat} {KW : List Nat} {n : Nat} (h : Grid w B eo ei (.slice (some ⟨go, 0, none⟩) no co) (rowsN KW n)) {i : Nat} (hi : i < n) :
    ∃ g cap, w.cell? ⟨go, i, none⟩ = some (.slice (some ⟨g, 0, none⟩) 4 cap) ∧ (∀ j, j < 4 → w.cell? ⟨g, j, none⟩ = some (.int .i64 ((KW.getD (4 * i + j) 0 : Nat) : Int))) := by
  obtain ⟨g, cap, h1, _, _, _, h2⟩ := h.row (rowsN_get KW hi) (nvs_ne (by rw [rowT_len]; omega))
  rw [nvs_len, rowT_len] at h1
  refine ⟨g, cap, h1, ?_⟩
  intro j hj
  have := h2 j _ (nvs_getD (by rw [rowT_len]; exact hj))
  rw [rowT_get KW hj] at this
  exact this

set_option maxRecDepth 100000 in
set_option maxHeartbeats 2000000 in
theorem rwords_any (v bx : Value) (K : List Nat) (w : World) (h : Rd w v (bvs K)) (hb : Rd w bx (nvs boxL)) (hK : ∀ n ∈ K, n < 256) (hl : K.length = 16) :
    Calls Try.prog 19 #[v, bx] w fun e w' => ∃ r, e = .returned r ∧ Grid w' w.heap.size 34 3 r (rowsN (kwords K) 44) ∧ Below w.heap.size w w' := by
  rcases h.cases with ⟨a, cap, rfl, rfl⟩ | ⟨b, off, cap, hpos, hc1, hc2, rfl, hbl, hcell⟩
  · simp at hl
  obtain ⟨ab, cb, rfl, hb1, hb2, hb3 | ⟨bb, ob, rfl, hbc⟩⟩ := hb
  · exact absurd hb3.1 (nvs_ne (by rw [boxL_len]; omega))
  have hbbl : bb < w.heap.size := World.block_lt_of_cell? w _ (hbc 0 _ (nvs_getD (by rw [boxL_len]; omega)))
  have hkl := kw_len hK hl
  have hkb := kw_lt hK hl
  have hkh := fun j (hj : j < 16) => kw_head hK hl hj
  have hkr := fun n (hn : n < 40) k (hk : k < 4) => kw_rec hK hl hn hk
  obtain ⟨KW, hKW⟩ : ∃ KW, KW = kwords K := ⟨_, rfl⟩
  rw [← hKW] at hkl hkb
  simp only [← hKW] at hkh hkr ⊢
  rw [hl] at hc1 ⊢
  rw [nvs_len, boxL_len] at hb1 ⊢
  have HC := Lib.hid hcell
  have HBC := Lib.hid hbc
  have HKH := Lib.hid hkh
  have HKR := Lib.hid hkr
  have HL := Lib.hid hl
  have HKL := Lib.hid hkl
  clear hcell hbc hkh hkr hKW h hl hpos hkl
  go_enter Try.func19, Try.ntmps19
  go_wp2_with fail
  go_loopg [5, 6] 44 (fun k r i wr => ∃ i' : Nat, i' + k = 44 ∧ i = .int .i64 i' ∧ Grid wr w.heap.size 34 3 r (rowsN KW i') ∧ Below w.heap.size w wr)
  case atStart => exact ⟨0, rfl, rfl, Grid.nil _ _ _ _, Below.refl _ _⟩
  case round =>
    obtain ⟨i, hi, rfl, hgr, hbel⟩ := hrel
    have HI := Lib.hid hi
    have HG := Lib.hid hgr
    have HB := Lib.hid hbel
    have hsz := hbel.size
    by_cases h44 : i < 44
    · clear hi hgr hbel
      obtain ⟨wo, rfl⟩ : ∃ wo : World, wo = wr := ⟨_, rfl⟩
      obtain ⟨gko, rfl⟩ : ∃ gko, gko = gk := ⟨_, rfl⟩
      have h44' : decide ((i : Int) < 44) = true := by rw [decide_eq_true_iff]; omega
      go_wp2_with fail
      go_loopg [7, 8] 4 (fun k t j wv => ∃ j' : Nat, j' + k = 4 ∧ j = .int .i64 j' ∧ Own wv wo.heap.size 3 t (nvs (rowT KW i j')) ∧ Below wo.heap.size wo wv)
      case atStart => exact ⟨0, rfl, rfl, Own.nil _ _ _, Below.refl _ _⟩
      case round =>
        obtain ⟨j, hj, rfl, hown, hbv⟩ := hrel
        have HJ := Lib.hid hj
        have HO := Lib.hid hown
        have HV := Lib.hid hbv
        have hszv := hbv.size
        by_cases h4 : j < 4
        · clear hj hown hbv
          have h4' : decide ((j : Int) < 4) = true := by rw [decide_eq_true_iff]; omega
          have hbelW : ∀ p v, w.cell? p = some v → wr.cell? p = some v := fun p v h => by
            have hl1 := World.block_lt_of_cell? w _ h
            rw [HV.out.cell (by omega), HB.out.cell hl1]; exact h
          by_cases hi4 : i < 4
          · have q := HC.out (4 * i + j) (by have := HL.out; omega)
            rw [← HKH.out _ (by omega), ← HB.out.cell (p := ⟨b, off + (4 * i + j), none⟩) (by exact hbl), ← HV.out.cell (p := ⟨b, off + (4 * i + j), none⟩) (by simp only; omega)] at q
            have hx1 := getD_lt hkb (by omega) (4 * i + j)
            obtain ⟨x, hx⟩ : ∃ x, x = KW.getD (4 * i + j) 0 := ⟨_, rfl⟩
            rw [← hx] at q hx1
            have HX := Lib.hid hx
            clear hx
            have y1 : (0 : Int) ≤ 4 * (i : Int) + (j : Int) := by omega
            have y2 : 4 * (i : Int) + (j : Int) < 16 := by omega
            go_wp2_with (at_builtin; refine wpList_push rfl (.tmp 22) (.tmp 31) 34 rfl wo.heap.size 3 _ 8 ints34 _ _ rfl (HO.out.alloc _) ⟨wr.heap.size, 0, none⟩ (.int .i64 (x : Int)) rfl ?c1 rfl ?c2 ?c3 ?_)
            case c1 => exact cell_new rfl
            case c2 => simp [rowT_len]; omega
            case c3 => simp; omega
            rintro v' w1 hown1 hg1 hb1
            clear hg1
            have HO3 := Lib.hid hown1
            have HB3 := Lib.hid hb1
            clear hown1 hb1
            go_wp2_with fail
            go_roundg (gk - 1)
            case measure => have := HJ.out; omega
            case rel =>
              refine ⟨j + 1, by have := HJ.out; omega, by go_num, ?_, HV.out.trans (((Below.refl wo.heap.size wr).alloc (by omega) _).trans HB3.out)⟩
              rw [rowT_succ, nvs_snoc, ← HX.out]; exact HO3.out
          · have hi4' : decide ((i : Int) < 4) = false := by rw [decide_eq_false_iff_not]; omega
            have hne : rowsN KW i ≠ [] := by
              intro h'; have := congrArg List.length h'; rw [rowsN_len] at this; simp only [List.length_nil] at this; omega
            obtain ⟨go, co, hv5, hco1, hco2, hgol⟩ := HG.out.outer hne
            rw [rowsN_len] at hco1 hv5
            subst hv5
            obtain ⟨g1, cp1, r1, r1c⟩ := HG.out.num (i := i - 1) (by omega)
            obtain ⟨g4, cp4, r4, r4c⟩ := HG.out.num (i := i - 4) (by omega)
            have cellV : ∀ p v, wo.cell? p = some v → wr.cell? p = some v := fun p v h => by rw [HV.out.cell (World.block_lt_of_cell? wo _ h)]; exact h
            have q1 := cellV _ _ r1
            have q1c := cellV _ _ (r1c j h4)
            have q4 := cellV _ _ r4
            have q4c := cellV _ _ (r4c j h4)
            have qn := cellV _ _ (r1c ((j + 1) % 4) (by omega))
            have yb := getD_lt hkb (by omega) (4 * (i - 1) + (j + 1) % 4)
            have qb := hbelW _ _ (HBC.out _ _ (nvs_getD (by rw [boxL_len]; exact yb)))
            have zb := getD_lt boxL_lt (by omega) (KW.getD (4 * (i - 1) + (j + 1) % 4) 0)
            have b1 := getD_lt hkb (by omega) (4 * (i - 1) + j)
            have b4 := getD_lt hkb (by omega) (4 * (i - 4) + j)
            have hrec := HKR.out (i - 4) (by omega) j h4
            rw [show i - 4 + 4 = i from by omega] at hrec
            obtain ⟨y, hy⟩ : ∃ y, y = KW.getD (4 * (i - 1) + (j + 1) % 4) 0 := ⟨_, rfl⟩
            rw [← hy] at qn yb qb zb
            obtain ⟨z, hz⟩ : ∃ z, z = boxL.getD y 0 := ⟨_, rfl⟩
            rw [← hz] at qb zb
            obtain ⟨x1, hx1⟩ : ∃ x, x = KW.getD (4 * (i - 1) + j) 0 := ⟨_, rfl⟩
            rw [← hx1] at q1c b1
            obtain ⟨x4, hx4⟩ : ∃ x, x = KW.getD (4 * (i - 4) + j) 0 := ⟨_, rfl⟩
            rw [← hx4] at q4c b4 hrec
            have HREC := Lib.hid hrec
            have HY := Lib.hid hy
            have HZ := Lib.hid hz
            have HX1 := Lib.hid hx1
            clear hrec hy hz hx1 hx4 r1 r1c r4 r4c cellV hne
            have yi : (y : Int) < 256 := by omega
            by_cases hm : i % 4 = 0
            · have hm' : (((i : Int) % 4) == 0) = true := by rw [beq_iff_eq]; omega
              by_cases hj0 : j = 0
              · have hj' : (((j : Nat) : Int) == 0) = true := by rw [beq_iff_eq]; omega
                have HJ0 := Lib.hid hj0
                have HM := Lib.hid hm
                clear hj0 hm
                obtain ⟨gj, rfl⟩ : ∃ gj, gj = gk := ⟨_, rfl⟩
                go_wp2_with fail
                go_loopg [10, 11] (i / 4 - 1) (fun k p n wp => ∃ p' n' : Nat, n' + 1 + k = i / 4 ∧ p' = pw n' ∧ p' < 256 ∧ p = .int .i64 p' ∧ n = .int .i64 ((n' : Int) + 1) ∧ wp = wr)
                case atStart => exact ⟨1, 0, by omega, rfl, by omega, rfl, rfl, rfl⟩
                case round =>
                  obtain ⟨p, n, hn, hp, hpl, rfl, rfl, rfl⟩ := hrel
                  have HN := Lib.hid hn
                  have HP := Lib.hid hp
                  have hi3 : 4 ≤ i := by omega
                  by_cases hlt : n + 1 < i / 4
                  · have R := rtimes_any p 2 hpl (by omega)
                    rw [rtms_tms p 2 hpl] at R
                    have HR := Lib.hid R
                    clear hn hp R
                    go_wp2_with fail
                    refine (HR.out _).mono ?_
                    rintro e w2 ⟨rfl, rfl⟩
                    go_wp2_with fail
                    go_roundg (gk - 1)
                    case measure => have := HN.out; omega
                    case rel => exact ⟨tms p 2, n + 1, by have := HN.out; omega, by rw [pw, HP.out], tms_lt _ hpl, rfl, by go_num, rfl⟩
                  · have hn0 : n = i / 4 - 1 := by omega
                    have HN0 := Lib.hid hn0
                    clear hn hp hn0
                    have e1 := i64_xor_nat z p (by omega) (by omega)
                    have hzp : z ^^^ p < 256 := xor_lt zb hpl
                    have e2 := i64_xor_nat x4 (z ^^^ p) (by omega) (by omega)
                    have HX : Hid (x4 ^^^ (z ^^^ p) = KW.getD (4 * i + j) 0) := Lib.hid (by rw [HREC.out, wx, if_pos HM.out, if_pos HJ0.out, ← HY.out, ← HZ.out, HP.out, HN0.out])
                    go_wp2_with (at_builtin; refine wpList_push rfl (.tmp 75) (.tmp 86) 34 rfl wo.heap.size 3 _ 8 ints34 _ _ rfl (HO.out.alloc _) ⟨wr.heap.size, 0, none⟩ (.int .i64 (((x4 ^^^ (z ^^^ p) : Nat) : Int) : Int)) rfl ?c1 rfl ?c2 ?c3 ?_)
                    case c1 => exact cell_new rfl
                    case c2 => simp [rowT_len]; omega
                    case c3 => simp; omega
                    rintro v' w1 hown1 hg1 hb1
                    clear hg1
                    have HO3 := Lib.hid hown1
                    have HB3 := Lib.hid hb1
                    clear hown1 hb1
                    go_wp2_with fail
                    go_roundg (gj - 1)
                    case measure => have := HJ.out; omega
                    case rel =>
                      refine ⟨j + 1, by have := HJ.out; omega, by go_num, ?_, HV.out.trans (((Below.refl wo.heap.size wr).alloc (by omega) _).trans HB3.out)⟩
                      rw [rowT_succ, nvs_snoc, ← HX.out]; exact HO3.out
              · have hj' : (((j : Nat) : Int) == 0) = false := by rw [beq_eq_false_iff_ne]; omega
                have e2 := i64_xor_nat x4 z (by omega) (by omega)
                have HM := Lib.hid hm
                have HJ0 := Lib.hid hj0
                clear hm hj0
                have HX : Hid (x4 ^^^ z = KW.getD (4 * i + j) 0) := Lib.hid (by rw [HREC.out, wx, if_pos HM.out, if_neg HJ0.out, ← HY.out, ← HZ.out])
                go_wp2_with (at_builtin; refine wpList_push rfl (.tmp 75) (.tmp 86) 34 rfl wo.heap.size 3 _ 8 ints34 _ _ rfl (HO.out.alloc _) ⟨wr.heap.size, 0, none⟩ (.int .i64 (((x4 ^^^ z : Nat) : Int) : Int)) rfl ?c1 rfl ?c2 ?c3 ?_)
                case c1 => exact cell_new rfl
                case c2 => simp [rowT_len]; omega
                case c3 => simp; omega
                rintro v' w1 hown1 hg1 hb1
                clear hg1
                have HO3 := Lib.hid hown1
                have HB3 := Lib.hid hb1
                clear hown1 hb1
                go_wp2_with fail
                go_roundg (gk - 1)
                case measure => have := HJ.out; omega
                case rel =>
                  refine ⟨j + 1, by have := HJ.out; omega, by go_num, ?_, HV.out.trans (((Below.refl wo.heap.size wr).alloc (by omega) _).trans HB3.out)⟩
                  rw [rowT_succ, nvs_snoc, ← HX.out]; exact HO3.out
            · have hm' : (((i : Int) % 4) == 0) = false := by rw [beq_eq_false_iff_ne]; omega
              have e2 := i64_xor_nat x4 x1 (by omega) (by omega)
              have HM := Lib.hid hm
              clear hm
              have HX : Hid (x4 ^^^ x1 = KW.getD (4 * i + j) 0) := Lib.hid (by rw [HREC.out, wx, if_neg HM.out, ← HX1.out])
              go_wp2_with (at_builtin; refine wpList_push rfl (.tmp 75) (.tmp 86) 34 rfl wo.heap.size 3 _ 8 ints34 _ _ rfl (HO.out.alloc _) ⟨wr.heap.size, 0, none⟩ (.int .i64 (((x4 ^^^ x1 : Nat) : Int) : Int)) rfl ?c1 rfl ?c2 ?c3 ?_)
              case c1 => exact cell_new rfl
              case c2 => simp [rowT_len]; omega
              case c3 => simp; omega
              rintro v' w1 hown1 hg1 hb1
              clear hg1
              have HO3 := Lib.hid hown1
              have HB3 := Lib.hid hb1
              clear hown1 hb1
              go_wp2_with fail
              go_roundg (gk - 1)
              case measure => have := HJ.out; omega
              case rel =>
                refine ⟨j + 1, by have := HJ.out; omega, by go_num, ?_, HV.out.trans (((Below.refl wo.heap.size wr).alloc (by omega) _).trans HB3.out)⟩
                rw [rowT_succ, nvs_snoc, ← HX.out]; exact HO3.out
        · obtain rfl : j = 4 := by omega
          clear hj hown hbv
          obtain ⟨gt, capt, curt, hvt, _, hgtl, _, _, _, _, _, _, _⟩ := HO.out.out (nvs_ne (by rw [rowT_len]; omega))
          rw [nvs_len, rowT_len] at hvt
          subst hvt
          go_wp2_with (at_builtin; refine wpList_pushRow rfl (.tmp 88) (.tmp 90) 36 rfl w.heap.size 34 3 _ 24 grid36 (by decide) _ (rowsN KW i) rfl ((HG.out.below HV.out (Nat.le_refl _)).alloc _) ⟨wr.heap.size, 0, none⟩ (.slice (some ⟨gt, 0, none⟩) 4 capt) (nvs (rowT KW i 4)) rfl ?c1 ((HO.out.alloc _).mono hsz) ?c2 ?c3 ?_)
          case c1 => exact cell_new rfl
          case c2 => rw [rowsN_len]; omega
          case c3 => simp; omega
          rintro v' w1 hg1 hb1
          have HG1 := Lib.hid hg1
          have HB1 := Lib.hid hb1
          clear hg1 hb1
          go_wp2_with fail
          go_roundg (gko - 1)
          case measure => have := HI.out; omega
          case rel =>
            refine ⟨i + 1, by have := HI.out; omega, by go_num, ?_, HB.out.trans ((HV.out.mono hsz).trans (((Below.refl w.heap.size wr).alloc (by omega) _).trans HB1.out))⟩
            rw [rowsN_succ]; exact HG1.out
    · obtain rfl : i = 44 := by omega
      go_wp2_with fail
      go_ret
      exact ⟨_, rfl, HG.out, HB.out⟩
end Go.Proofs.Ytfpjpakjlhidkaa
