/- Walks: aes.Block: a block sealed. -/
import Derived.Test.YtfpjpakjlhidkaaAesMix
import Derived.Test.YtfpjpakjlhidkaaJumps
namespace Go.Proofs.Ytfpjpakjlhidkaa
open Go.RowKit AesM

namespace AesM
/-- A key's words. -/
def kwords (K : List Nat) : List Nat := (exN boxL K 40).1
def addRK (S W : List Nat) (n : Nat) : List Nat := List.zipWith (· ^^^ ·) S (W.drop (16 * n))
def subRow (S : List Nat) : List Nat := (List.range 16).map fun i => boxL.getD (S.getD ((i + i % 4 * 4) % 16) 0) 0
def mixS (N : List Nat) : Nat → List Nat
  | 0 => N
  | j + 1 => mixN (mixS N j) (4 * j) 4
def mixAll (N : List Nat) : List Nat := mixS N 4
def blkN (W M : List Nat) : Nat → List Nat
  | 0 => M
  | n + 1 => if n + 1 < 10 then mixAll (subRow (addRK (blkN W M n) W n)) else subRow (addRK (blkN W M n) W n)
/-- A block sealed. -/
def blk (K M : List Nat) : List Nat := addRK (blkN (kwords K) M 10) (kwords K) 10
end AesM

theorem mixS_ok {N : List Nat} (h : ∀ x ∈ N, x < 256) : ∀ j, (mixS N j).length = N.length ∧ ∀ x ∈ mixS N j, x < 256 := by
  intro j
  induction j with
  | zero => exact ⟨rfl, h⟩
  | succ j ih => exact ⟨by rw [mixS, mixN_len]; exact ih.1, mixN_lt ih.2 _ _⟩
theorem subRow_ok (S : List Nat) : (subRow S).length = 16 ∧ ∀ x ∈ subRow S, x < 256 := by
  refine ⟨by simp [subRow], ?_⟩
  intro x hx
  obtain ⟨i, _, rfl⟩ := List.mem_map.1 hx
  exact getD_lt boxL_lt (by omega) _
theorem blkN_ok (W : List Nat) {M : List Nat} (hM : ∀ x ∈ M, x < 256) (hm : M.length = 16) : ∀ n, n ≤ 10 → (blkN W M n).length = 16 ∧ ∀ x ∈ blkN W M n, x < 256 := by
  intro n
  induction n with
  | zero => intro _; exact ⟨hm, hM⟩
  | succ n ih =>
    intro hn
    unfold blkN
    split
    · exact ⟨(mixS_ok (subRow_ok _).2 4).1.trans (subRow_ok _).1, (mixS_ok (subRow_ok _).2 4).2⟩
    · exact subRow_ok _
theorem addRK_ok {S W : List Nat} {n : Nat} (hW : ∀ x ∈ W, x < 256) (hl : 16 * n + 16 ≤ W.length) (hS : ∀ x ∈ S, x < 256) (hm : S.length = 16) : (addRK S W n).length = 16 ∧ ∀ x ∈ addRK S W n, x < 256 := by
  refine ⟨?_, zip_lt hS (fun x hx => hW x (List.mem_of_mem_drop hx))⟩
  unfold addRK
  rw [List.length_zipWith, List.length_drop]; omega

/-- What holds whenever the walk comes to the label. -/
def BlkJ (v1 v1' : Value) (W M : List Nat) (w : World) (ac : Act) (w' : World) : Prop :=
  ∃ n gb gw capw gs caps Bs : Nat, n ≤ 10 ∧ gb < Bs ∧ gw < Bs ∧ w.heap.size ≤ Bs ∧ Bs ≤ w'.heap.size ∧ 176 ≤ capw ∧ capw ≤ maxLen ∧ 16 ≤ caps ∧ caps ≤ maxLen ∧
    (∀ t, t < 256 → w'.cell? ⟨gb, t, none⟩ = some (.int .u8 ((boxL.getD t 0 : Nat) : Int))) ∧
    (∀ j, j < 176 → w'.cell? ⟨gw, j, none⟩ = some (.int .u8 ((W.getD j 0 : Nat) : Int))) ∧
    Own w' Bs 5 (.slice (some ⟨gs, 0, none⟩) 16 caps) (bvs (blkN W M n)) ∧ Below w.heap.size w w' ∧
    ∃ (x10 x11 x12 x13 x14 x15 x16 x17 x18 x19 x20 x21 x22 x23 x24 x25 x26 x27 x28 x29 x30 x31 x32 x33 x34 x35 x36 x37 x38 x39 x40 x41 x42 x43 x44 x45 x46 x47 x48 x49 x50 x51 x52 x53 x54 x55 x56 x57 x58 x59 x60 x61 x62 x63 x64 x65 x66 x67 x68 x69 x70 x71 x72 x73 x74 x75 x76 x77 x78 x79 x80 x81 x82 x83 x84 x85 x86 x87 x88 x89 x90 : Value), ac = { tmps := #[v1, v1', undef, undef, .slice none 0 0, .bool false, .pointer (some ⟨gb, 0, none⟩), .slice (some ⟨gw, 0, none⟩) 176 capw, .slice (some ⟨gs, 0, none⟩) 16 caps, .int .i64 (n : Int), x10, x11, x12, x13, x14, x15, x16, x17, x18, x19, x20, x21, x22, x23, x24, x25, x26, x27, x28, x29, x30, x31, x32, x33, x34, x35, x36, x37, x38, x39, x40, x41, x42, x43, x44, x45, x46, x47, x48, x49, x50, x51, x52, x53, x54, x55, x56, x57, x58, x59, x60, x61, x62, x63, x64, x65, x66, x67, x68, x69, x70, x71, x72, x73, x74, x75, x76, x77, x78, x79, x80, x81, x82, x83, x84, x85, x86, x87, x88, x89, x90], defers := [] }

@[irreducible] def zero16 : Array Value := (bvs (List.replicate 16 0)).toArray
theorem zero16_eq : zero16 = (bvs (List.replicate 16 0)).toArray := by unfold zero16; rfl
set_option maxRecDepth 100000 in
set_option maxHeartbeats 2000000 in
theorem block_any (v v' : Value) (K M : List Nat) (w : World) (h : Rd w v (bvs K)) (h' : Rd w v' (bvs M)) (hK : ∀ n ∈ K, n < 256) (hM : ∀ n ∈ M, n < 256) (hl : K.length = 16) (hl' : M.length = 16) :
    Calls Try.prog 15 #[v, v'] w fun e w' => ∃ r, e = .returned (.tuple #[r, .bool true]) ∧ Own w' w.heap.size 5 r (bvs (blk K M)) ∧ Below w.heap.size w w' := by
  obtain ⟨a, cap, rfl, hlc⟩ := id h
  obtain ⟨a', cap', rfl, hlc'⟩ := id h'
  rw [bvs_len, hl] at h ⊢
  rw [bvs_len, hl'] at h' ⊢
  have HR := Lib.hid h
  have HR' := Lib.hid h'
  have HL := Lib.hid hl
  have HL' := Lib.hid hl'
  have hz : ∀ w, (zeroValue 48).run Try.prog w = .ok (.agg zero256) w := fun _ => by kernel_rfl
  clear h h' hl hl' hlc hlc'
  go_enter Try.func15, Try.ntmps15
  go_wp2_with fail
  refine wp_scope_label' 0 (BlkJ (.slice a 16 cap) (.slice a' 16 cap') (kwords K) M w) (fun ac _ => 10 - (intOf (ac.tmps.getD 9 undef)).toNat) rfl ?_ ?_
  · rintro ac wx ⟨n, gb, gw, capw, gs, caps, Bs, hn, hgb, hgw, hwb, hbs, hcw1, hcw2, hcs1, hcs2, hbox, hword, hown, hbel, hf⟩
    iterate 81 (obtain ⟨_, hf⟩ := hf)
    subst hf
    have HX := Lib.hid hbox
    have HW := Lib.hid hword
    have HO := Lib.hid hown
    have HB := Lib.hid hbel
    have hkw : (kwords K).length = 176 := (exN_ok boxL_lt hK HL.out 40).1
    have hkb : ∀ x ∈ kwords K, x < 256 := (exN_ok boxL_lt hK HL.out 40).2.1
    obtain ⟨W, hW⟩ : ∃ W, W = kwords K := ⟨_, rfl⟩
    rw [← hW] at hkw hkb HW HO ⊢
    have HWK := Lib.hid hW
    have hS := blkN_ok W hM HL'.out n hn
    obtain ⟨S, hS'⟩ : ∃ S, S = blkN W M n := ⟨_, rfl⟩
    rw [← hS'] at hS HO
    have HS := Lib.hid hS'
    have hZ := addRK_ok (n := n) hkb (by omega) hS.2 hS.1
    obtain ⟨Z, hZ'⟩ : ∃ Z, Z = addRK S W n := ⟨_, rfl⟩
    rw [← hZ'] at hZ
    have HZ := Lib.hid hZ'
    obtain ⟨hs16, hsb⟩ := hS
    obtain ⟨hz16, hzb⟩ := hZ
    have HS16 := Lib.hid hs16
    have HZ16 := Lib.hid hz16
    have HKW := Lib.hid hkw
    clear hbox hword hown hbel hkw hW hS' hZ' hs16 hz16
    go_wp2_with fail
    go_loopg [31] 16 (fun k i wv => ∃ i' : Nat, i' + k = 16 ∧ i = .int .i64 i' ∧ Own wv Bs 5 (.slice (some ⟨gs, 0, none⟩) 16 caps) (bvs (Z.take i' ++ S.drop i')) ∧ Below Bs wx wv)
    case atStart => exact ⟨0, rfl, rfl, by simpa using HO.out, Below.refl _ _⟩
    case round =>
      obtain ⟨i, hi, rfl, hown, hbel⟩ := hrel
      by_cases h16 : i < 16
      · have hs16 := HS16.out
        have hz16 := HZ16.out
        obtain ⟨hcellsT, hfzT⟩ := hown.at
        have q1 := hcellsT i _ (bvs_getD (by simp; omega))
        rw [upd_get (by omega) (by omega)] at q1
        have f1 := hfzT i
        have q2 := HW.out (16 * n + i) (by omega)
        rw [← hbel.cell (p := ⟨gw, 16 * n + i, none⟩) (by exact hgw)] at q2
        have x1 := getD_lt hsb (by omega) i
        have x2 := getD_lt hkb (by omega) (16 * n + i)
        obtain ⟨x, hx⟩ : ∃ x, x = S.getD i 0 := ⟨_, rfl⟩
        obtain ⟨y, hy⟩ : ∃ y, y = W.getD (16 * n + i) 0 := ⟨_, rfl⟩
        rw [← hx] at q1 x1
        rw [← hy] at q2 x2
        have HO3 := Lib.hid hown
        have HB4 := Lib.hid hbel
        have HI := Lib.hid hi
        have HHX := Lib.hid hx
        have HHY := Lib.hid hy
        have hBg : Bs ≤ gs := (World.ownsRow.lt hown gs rfl).1
        clear hcellsT hfzT hown hbel hi hx hy hs16 hz16
        have y1 : (0 : Int) ≤ 16 * (n : Int) + (i : Int) := by omega
        have y2 : 16 * (n : Int) + (i : Int) < 176 := by omega
        go_wp2_with fail
        go_region
        go_wp2_with fail
        go_roundg (gk - 1)
        case measure => have := HI.out; omega
        case rel =>
          have hx4 := HS16.out
          have hz4 := HZ16.out
          have hkw := HKW.out
          refine ⟨i + 1, by have := HI.out; omega, by go_num, ?_, ?_⟩
          · have h := (HO3.out.set i (.int .u8 ((x ^^^ y : Nat) : Int))).drew
            rw [u8_xor_nat x y x1 x2, ← upd_step (by omega) (by omega), bvs_set]
            have hz : Z[i]'(by omega) = x ^^^ y := by
              have hxi : x = S[i]'(by omega) := by rw [HHX.out, List.getD_eq_getElem?_getD, List.getElem?_eq_getElem (by omega)]; rfl
              have hyi : y = W[16 * n + i]'(by omega) := by rw [HHY.out, List.getD_eq_getElem?_getD, List.getElem?_eq_getElem (by omega)]; rfl
              have hzz := HZ.out
              subst hzz
              unfold addRK
              rw [List.getElem_zipWith, List.getElem_drop, ← hxi, ← hyi]
            rw [hz]
            exact h
          · exact (HB4.out.setCell hBg _).drew
      · obtain rfl : i = 16 := by omega
        rw [List.take_of_length_le (by have := HZ16.out; omega), List.drop_eq_nil_of_le (by have := HS16.out; omega), List.append_nil] at hown
        have HO2 := Lib.hid hown
        have HB2 := Lib.hid hbel
        have hsz := hbel.size
        clear hown hbel hi h16
        by_cases h10 : n = 10
        · have h10' : ((n : Int) == 10) = true := by simp; omega
          go_wp2_with fail
          simp only [Exit.jump]
          go_ret2
          refine ⟨_, rfl, ?_, ?_⟩
          · subst h10
            rw [blk, ← HWK.out, ← HS.out, ← HZ.out]
            exact HO2.out.mono hwb
          · exact HB.out.trans (HB2.out.mono hwb)
        · have h10' : ((n : Int) == 10) = false := by simp; omega
          have hmk : ∀ w, (Instr.makeSlice 28 (.int .i64 16) (.int .i64 16)).run Try.prog w = .ok (.slice (some ⟨w.heap.size, 0, none⟩) 16 16) (w.alloc (.cells zero16 5)) := fun _ => by kernel_rfl
          go_wp2_with fail
          obtain ⟨wo, rfl⟩ : ∃ wo : World, wo = wr := ⟨_, rfl⟩
          obtain ⟨R, hR⟩ : ∃ R, R = subRow Z := ⟨_, rfl⟩
          have hr16 : R.length = 16 := by rw [hR]; exact (subRow_ok Z).1
          have HR1 := Lib.hid hR
          have HR16 := Lib.hid hr16
          have hn1 : n + 1 ≤ 10 := by omega
          have hrb : ∀ x ∈ R, x < 256 := by rw [hR]; exact (subRow_ok Z).2
          have hgsl : gs < wo.heap.size := (World.ownsRow.lt HO2.out gs rfl).2
          clear hR hr16 h10 h10'
          have hz0 : zero16 = (bvs (List.replicate 16 0)).toArray := zero16_eq
          have hN : Own (wo.alloc (.cells zero16 5)) wo.heap.size 5 (.slice (some ⟨wo.heap.size, 0, none⟩) 16 16) (bvs (List.replicate 16 0)) := by
            rw [hz0]
            exact Own.full (cs := (bvs (List.replicate 16 0)).toArray) rfl (Nat.le_refl _) (by simp [maxLen]) (by simp)
          have HN := Lib.hid hN
          clear hz0 hN
          go_loopg [56] 16 (fun k i wv => ∃ i' : Nat, i' + k = 16 ∧ i = .int .i64 i' ∧ Own wv wo.heap.size 5 (.slice (some ⟨wo.heap.size, 0, none⟩) 16 16) (bvs (R.take i' ++ (List.replicate 16 0).drop i')) ∧ Below wo.heap.size wo wv)
          case atStart => exact ⟨0, rfl, rfl, by simpa using HN.out, (Below.refl _ _).alloc (Nat.le_refl _) _⟩
          case round =>
            obtain ⟨i, hi, rfl, hown, hbel⟩ := hrel
            by_cases h16 : i < 16
            · obtain ⟨hcellsT, hfzT⟩ := hown.at
              have q1 := hcellsT i _ (bvs_getD (by have := HR16.out; simp; omega))
              have f1 := hfzT i
              have q2 := HO2.out.at.1 ((i + i % 4 * 4) % 16) _ (bvs_getD (by have := HZ16.out; omega))
              rw [← hbel.cell (p := ⟨gs, (i + i % 4 * 4) % 16, none⟩) (by exact hgsl)] at q2
              have x2 := getD_lt hzb (by omega) ((i + i % 4 * 4) % 16)
              obtain ⟨y, hy⟩ : ∃ y, y = Z.getD ((i + i % 4 * 4) % 16) 0 := ⟨_, rfl⟩
              rw [← hy] at q2 x2
              have q3 := HX.out y x2
              rw [← HB2.out.cell (p := ⟨gb, y, none⟩) (by exact hgb), ← hbel.cell (p := ⟨gb, y, none⟩) (by simp only; omega)] at q3
              have HO3 := Lib.hid hown
              have HB4 := Lib.hid hbel
              have HI := Lib.hid hi
              have HHY := Lib.hid hy
              clear hcellsT hfzT hown hbel hi hy
              have y1 : (y : Int) < 256 := by omega
              go_wp2_with fail
              go_roundg (gk - 1)
              case measure => have := HI.out; omega
              case rel =>
                have hr := HR16.out
                refine ⟨i + 1, by have := HI.out; omega, by go_num, ?_, ?_⟩
                · have h := HO3.out.set i (.int .u8 ((boxL.getD y 0 : Nat) : Int))
                  rw [← upd_step (by simp; omega) (by simp; omega), bvs_set]
                  have hz : R[i]'(by omega) = boxL.getD y 0 := by
                    have hzz := HR1.out
                    subst hzz
                    simp only [subRow, List.getElem_map, List.getElem_range]
                    rw [HHY.out]
                  rw [hz]
                  simpa using h
                · exact HB4.out.setCell (Nat.le_refl _) _
            · obtain rfl : i = 16 := by omega
              have hr := HR16.out
              rw [List.take_of_length_le (by omega), List.drop_eq_nil_of_le (by simp), List.append_nil] at hown
              have HO4 := Lib.hid hown
              have HB4 := Lib.hid hbel
              have hsz4 := hbel.size
              clear hown hbel hi h16 hr
              go_wp2_with fail
              go_loopg [13] 4 (fun k c wv => ∃ j : Nat, j + k = 4 ∧ (10 ≤ n + 1 → j = 0) ∧ c = .int .i64 ((4 * j : Nat) : Int) ∧ Own wv wo.heap.size 5 (.slice (some ⟨wo.heap.size, 0, none⟩) 16 16) (bvs (mixS R j)) ∧ Below wo.heap.size wo wv)
              case atStart => exact ⟨0, rfl, fun _ => rfl, rfl, HO4.out, HB4.out⟩
              case round =>
                obtain ⟨j, hj, hj0, rfl, hown, hbel⟩ := hrel
                have hmo := mixS_ok hrb j
                have HMO := Lib.hid hmo
                have HO5 := Lib.hid hown
                have HB5 := Lib.hid hbel
                have HJ := Lib.hid hj
                have HJ0 := Lib.hid hj0
                clear hown hbel hmo hj0
                by_cases hlt : n + 1 < 10 ∧ j < 4
                · obtain ⟨hn9, hj4⟩ := hlt
                  clear hj
                  obtain rfl | rfl | rfl | rfl : j = 0 ∨ j = 1 ∨ j = 2 ∨ j = 3 := by omega
                  · go_wp2_with fail
                    refine (mix_any wo.heap.size 0 16 16 16 wo.heap.size (mixS R 0) _ HO5.out (by rw [HMO.out.1, HR16.out]; omega) (by omega) HMO.out.2).mono ?_
                    rintro e w5 ⟨rfl, hown5, hb5⟩
                    have HO6 := Lib.hid hown5
                    have HB6 := Lib.hid hb5
                    clear hown5 hb5
                    go_wp2_with fail
                    go_roundg 3
                    case measure => have := HJ.out; omega
                    case rel => exact ⟨1, rfl, fun _ => by omega, rfl, HO6.out, HB5.out.trans HB6.out⟩
                  · go_wp2_with fail
                    refine (mix_any wo.heap.size 4 12 16 16 wo.heap.size (mixS R 1) _ HO5.out (by rw [HMO.out.1, HR16.out]; omega) (by omega) HMO.out.2).mono ?_
                    rintro e w5 ⟨rfl, hown5, hb5⟩
                    have HO6 := Lib.hid hown5
                    have HB6 := Lib.hid hb5
                    clear hown5 hb5
                    go_wp2_with fail
                    go_roundg 2
                    case measure => have := HJ.out; omega
                    case rel => exact ⟨2, rfl, fun _ => by omega, rfl, HO6.out, HB5.out.trans HB6.out⟩
                  · go_wp2_with fail
                    refine (mix_any wo.heap.size 8 8 16 16 wo.heap.size (mixS R 2) _ HO5.out (by rw [HMO.out.1, HR16.out]; omega) (by omega) HMO.out.2).mono ?_
                    rintro e w5 ⟨rfl, hown5, hb5⟩
                    have HO6 := Lib.hid hown5
                    have HB6 := Lib.hid hb5
                    clear hown5 hb5
                    go_wp2_with fail
                    go_roundg 1
                    case measure => have := HJ.out; omega
                    case rel => exact ⟨3, rfl, fun _ => by omega, rfl, HO6.out, HB5.out.trans HB6.out⟩
                  · go_wp2_with fail
                    refine (mix_any wo.heap.size 12 4 16 16 wo.heap.size (mixS R 3) _ HO5.out (by rw [HMO.out.1, HR16.out]; omega) (by omega) HMO.out.2).mono ?_
                    rintro e w5 ⟨rfl, hown5, hb5⟩
                    have HO6 := Lib.hid hown5
                    have HB6 := Lib.hid hb5
                    clear hown5 hb5
                    go_wp2_with fail
                    go_roundg 0
                    case measure => have := HJ.out; omega
                    case rel => exact ⟨4, rfl, fun _ => by omega, rfl, HO6.out, HB5.out.trans HB6.out⟩
                · have hend : Own wr wo.heap.size 5 (.slice (some ⟨wo.heap.size, 0, none⟩) 16 16) (bvs (blkN W M (n + 1))) := by
                    have h1 := HO5.out
                    rw [blkN]
                    rw [← HS.out, ← HZ.out, ← HR1.out]
                    by_cases h9 : n + 1 < 10
                    · obtain rfl : j = 4 := by omega
                      rw [if_pos h9]; exact h1
                    · obtain rfl : j = 0 := HJ0.out (by omega)
                      rw [if_neg h9]; exact h1
                  have hl16 : (blkN W M (n + 1)).length = 16 := (blkN_ok W hM HL'.out (n + 1) hn1).1
                  have HE := Lib.hid hend
                  have HE16 := Lib.hid hl16
                  clear hend hl16
                  have hguard : ((n : Int) + 1 < 10 ∧ ((4 * j : Nat) : Int) = 16) ∨ 10 ≤ (n : Int) + 1 := by
                    by_cases h9 : n + 1 < 10
                    · left; omega
                    · right; omega
                  have fin : ∀ w6 : World, Own w6 Bs 5 (.slice (some ⟨gs, 0, none⟩) 16 caps) (bvs (blkN W M (n + 1))) → Below Bs wx w6 → True := fun _ _ _ => trivial
                  clear fin
                  rcases hguard with ⟨h9, hc16⟩ | h9
                  · rw [hc16]
                    clear hj hc16 hlt
                    go_wp2_with (refine wpList_cpy rfl (.tmp 88) (.tmp 89) 28 28 rfl 5 _ 1 bytes28 Bs gs 16 caps (bvs Z) rfl (HO2.out.below HB5.out (Nat.le_refl _)) (.slice (some ⟨wo.heap.size, 0, none⟩) 16 16) (bvs (blkN W M (n + 1))) rfl HE.out.rd (bvs_one _) ?_)
                    rintro w6 hown6 hb6
                    have hown7 : Own w6 Bs 5 (.slice (some ⟨gs, 0, none⟩) 16 caps) (bvs (blkN W M (n + 1))) := by
                      rw [List.take_of_length_le (by have a1 := HE16.out; have a2 := HZ16.out; simp; omega), List.drop_eq_nil_of_le (by have a1 := HE16.out; have a2 := HZ16.out; simp; omega), List.append_nil] at hown6
                      exact hown6
                    have HO7 := Lib.hid hown7
                    have hb7 : Below Bs wx w6 := HB2.out.trans ((HB5.out.mono (by omega)).trans hb6)
                    have HB7 := Lib.hid hb7
                    clear hown6 hown7 hb6 hb7
                    go_wp2_with fail
                    go_step3
                    refine ⟨rfl, ⟨n + 1, gb, gw, capw, gs, caps, Bs, hn1, hgb, hgw, hwb, Nat.le_trans hbs HB7.out.size, hcw1, hcw2, hcs1, hcs2, ?_, ?_, ?_, ?_, ?_⟩, ?_⟩
                    · intro t ht
                      rw [HB7.out.cell (p := ⟨gb, t, none⟩) (by exact hgb)]
                      exact HX.out t ht
                    · intro t ht
                      rw [HB7.out.cell (p := ⟨gw, t, none⟩) (by exact hgw)]
                      exact HW.out t ht
                    · exact HO7.out
                    · exact HB.out.trans (HB7.out.mono hwb)
                    · (repeat apply Exists.intro); rfl
                    · simp [intOf]; omega
                  · obtain rfl : j = 0 := HJ0.out (by omega)
                    clear hj hlt
                    go_wp2_with (refine wpList_cpy rfl (.tmp 88) (.tmp 89) 28 28 rfl 5 _ 1 bytes28 Bs gs 16 caps (bvs Z) rfl (HO2.out.below HB5.out (Nat.le_refl _)) (.slice (some ⟨wo.heap.size, 0, none⟩) 16 16) (bvs (blkN W M (n + 1))) rfl HE.out.rd (bvs_one _) ?_)
                    rintro w6 hown6 hb6
                    have hown7 : Own w6 Bs 5 (.slice (some ⟨gs, 0, none⟩) 16 caps) (bvs (blkN W M (n + 1))) := by
                      rw [List.take_of_length_le (by have a1 := HE16.out; have a2 := HZ16.out; simp; omega), List.drop_eq_nil_of_le (by have a1 := HE16.out; have a2 := HZ16.out; simp; omega), List.append_nil] at hown6
                      exact hown6
                    have HO7 := Lib.hid hown7
                    have hb7 : Below Bs wx w6 := HB2.out.trans ((HB5.out.mono (by omega)).trans hb6)
                    have HB7 := Lib.hid hb7
                    clear hown6 hown7 hb6 hb7
                    go_wp2_with fail
                    go_step3
                    refine ⟨rfl, ⟨n + 1, gb, gw, capw, gs, caps, Bs, hn1, hgb, hgw, hwb, Nat.le_trans hbs HB7.out.size, hcw1, hcw2, hcs1, hcs2, ?_, ?_, ?_, ?_, ?_⟩, ?_⟩
                    · intro t ht
                      rw [HB7.out.cell (p := ⟨gb, t, none⟩) (by exact hgb)]
                      exact HX.out t ht
                    · intro t ht
                      rw [HB7.out.cell (p := ⟨gw, t, none⟩) (by exact hgw)]
                      exact HW.out t ht
                    · exact HO7.out
                    · exact HB.out.trans (HB7.out.mono hwb)
                    · (repeat apply Exists.intro); rfl
                    · simp [intOf]; omega
  · intro hpass
    have HP := Lib.hid hpass
    clear hpass
    go_wp2_with fail
    refine (boxes_any _).mono ?_
    rintro e w1 ⟨rfl, hb1⟩
    have hs := Lib.hid (info256 boxL boxL_len)
    have ho : Hid (zero256.size = (bys boxL).size) := Lib.hid (by rw [zero256_size, bys_size, boxL_len])
    have h1 := Lib.hid (bys_one boxL)
    have hg := Lib.hid (heap_alloc_new w1 (.cells (bys boxL) 48))
    have HB1 := Lib.hid hb1
    have hsz1 := hb1.size
    clear hb1
    go_wp2_with (first | (with_reducible refine wpList_store_new rfl 48 _ _ rfl w1.heap.size rfl (bys boxL) rfl rfl 48 zero256 hs.out ho.out h1.out ?_) | (with_reducible refine wpList_load_row rfl 48 _ rfl w1.heap.size rfl 48 (bys boxL) (0, 0) _ hg.out Try.underlying48 rfl hs.out ?_) | (go_at_call 30; fail))
    refine (expand_any _ K boxL _ ((HR.out.below HB1.out (Nat.le_refl _)).alloc _) hK HL.out boxL_len boxL_lt).mono ?_
    rintro e w2 ⟨r, rfl, hown, hb2⟩
    have HO2 := Lib.hid hown
    have HB2 := Lib.hid hb2
    have hsz2 := hb2.size
    simp only [size_alloc'] at hsz2
    clear hown hb2
    go_wp2_with (at_builtin; refine wpList_app rfl (.tmp 26) (.tmp 27) 28 rfl w2.heap.size 5 _ 1 bytes28 _ [] rfl (Own.lit0 ?c0 ?c3) _ (bvs M) rfl ?cr (bvs_one _) ?c1 ?c2 ?_)
    case c0 => rfl
    case c3 => omega
    case cr => exact (((HR'.out.below HB1.out (Nat.le_refl _)).alloc _).below HB2.out (Nat.le_refl _)).alloc _
    case c1 => have := HL'.out; simp; omega
    case c2 => simp
    rintro v3 w3 hown3 hg3 hb3
    clear hg3
    have HO3 := Lib.hid hown3
    have HB3 := Lib.hid hb3
    have hsz3 := hb3.size
    simp only [size_alloc'] at hsz3
    clear hown3 hb3
    go_wp2_with fail
    have hkw : (exN boxL K 40).1.length = 176 := (exN_ok boxL_lt hK HL.out 40).1
    obtain ⟨gw, capw, curw, rfl, hgw, hgwl, _, hcw1, hcw2, _, _, hcellw, _⟩ := HO2.out.out (bvs_ne (by omega))
    obtain ⟨gs, caps, curs, rfl, hgs, hgsl, _, hcs1, hcs2, _, _, _, _⟩ := HO3.out.out (bvs_ne (by have := HL'.out; omega))
    have hO3 := HO3.out
    rw [bvs_len, hkw] at hcw1
    rw [bvs_len, HL'.out] at hcs1 hO3
    rw [bvs_len, bvs_len, hkw, HL'.out]
    have HC := Lib.hid hcellw
    have HO3' := Lib.hid hO3
    have HK := Lib.hid hkw
    clear hcellw hO3 hkw
    go_step3
    simp only [Exit.then]
    apply_assumption
    refine HP.out _ _ ?_
    refine ⟨0, w1.heap.size, gw, capw, gs, caps, w2.heap.size, by omega, by omega, by omega, by omega, by omega, hcw1, hcw2, hcs1, hcs2, ?_, ?_, HO3'.out, ?_, ?_⟩
    · intro t ht
      rw [HB3.out.cell (p := ⟨w1.heap.size, t, none⟩) (by simp only; omega), ((Below.refl w2.heap.size w2).alloc (Nat.le_refl _) _).cell (p := ⟨w1.heap.size, t, none⟩) (by simp only; omega), HB2.out.cell (p := ⟨w1.heap.size, t, none⟩) (by simp), cell_of_row _ _ _ _ _ _ (heap_alloc_new w1 _)]
      exact bys_getD (by rw [boxL_len]; exact ht)
    · intro j hj
      rw [HB3.out.cell (p := ⟨gw, j, none⟩) (by exact hgwl), ((Below.refl w2.heap.size w2).alloc (Nat.le_refl _) _).cell (p := ⟨gw, j, none⟩) (by exact hgwl)]
      exact HC.out j _ (bvs_getD (by rw [HK.out]; exact hj))
    · have b2 : Below w.heap.size w w2 := HB1.out.trans (((Below.refl w.heap.size w1).alloc (by omega) _).trans (HB2.out.mono (by simp; omega)))
      exact b2.trans (((Below.refl w.heap.size w2).alloc (by omega) _).trans (HB3.out.mono (by omega)))
    · (repeat apply Exists.intro); rfl
end Go.Proofs.Ytfpjpakjlhidkaa
