/- Walk: node.takeParent on the bytes of a right parent gives that parent. -/
import Derived.Test.YtngealmhgkoaiaaGreatZTreeBytes26
import Derived.Test.YtngealmhgkoaiaaGreatZTreeBytes30
import Derived.Test.YtngealmhgkoaiaaGreatZTreeBytes27
import Derived.Test.YtngealmhgkoaiaaGreatZTreeBytes25
import Derived.Test.YtngealmhgkoaiaaGreatZTreeBytes20
import Derived.Test.YtngealmhgkoaiaaGreatZTreeBytes12
namespace Go.Proofs.YtngealmhgkoaiaaGreat
open Go.RowKit WireM
set_option linter.unusedVariables false
/-- the three cells of a parent in new memory -/
def ParO (w : World) (B : Nat) (d : ParD) (c : Array Value) : Prop :=
  ∃ u0 u1 u2, c = #[u0, u1, u2] ∧ Own w B 5 u0 (bvs d.box) ∧ Own w B 5 u1 (bvs d.hash) ∧ Own w B 3 u2 (ivs .i64 d.late)
/-- what takeParent answers -/
def TkParP (B : Nat) (w : World) (d : ParD) (R : List Nat) (e : Ending) (w' : World) : Prop :=
  ∃ c, e = .returned (.tuple #[.agg c, .int .u8 0]) ∧ ParO w' w.heap.size d c ∧ RS w' B R 0 ∧ Only B w w'
theorem own_leni {w : World} {B : Nat} {v : Value} {L : List Int} (h : Own w B 3 v (ivs .i64 L)) : ∃ a c, v = .slice a L.length c := by
  obtain ⟨a, c, e, _⟩ := h.rd
  rw [ivs_len'] at e
  exact ⟨a, c, e⟩
theorem lateL_cons (x : Int) (L : List Int) : lateL (x :: L) = beN 4 x.toNat ++ lateL L := by simp [lateL]
/-- the contract of Num at four bytes that stand for a number -/
theorem num4_any (B : Nat) (x : Int) (L : List Int) (hx : 0 ≤ x ∧ x < 65536) (hM : ∀ y ∈ lateL (x :: L), y < 256) (W : World) (h : RS W B (lateL (x :: L)) 0) :
    Calls Tryz.prog 207 #[.pointer (some ⟨B, 0, none⟩), .int .i64 4] W fun e W' => e = .returned (.int .u64 (x.toNat : Nat)) ∧ RS W' B (lateL L) 0 ∧ Only B W W' := by
  have h1 := h
  rw [lateL_cons] at h1 hM
  have := num_any B _ 0 4 W h1 hM
  have e := numF_put (s := 4) (n := x.toNat) (by decide) (lateL L)
  rw [show ((4 : Nat) : Int) = 4 from rfl] at e
  rw [e] at this
  refine this.mono ?_
  rintro e W' ⟨h1, h2, h3⟩
  refine ⟨?_, h2, h3⟩
  rw [h1]
  simp only
  rw [numV_beN]
  congr 2
  omega
theorem RdK.slot {w : World} {B q i : Nat} {v u : Value} {L : List Nat} {a : Option Addr} {n c : Nat} (h : RdK w B v (bvs L)) (hc : w.cell? ⟨q, i, none⟩ = some (.slice a n c)) : RdK (w.setCell ⟨q, i, none⟩ u) B v (bvs L) := by
  obtain ⟨a', cap, h1, h2, h3, h4 | ⟨b, off, h4, h5, h6⟩⟩ := h
  · exact ⟨a', cap, h1, h2, h3, .inl h4⟩
  · refine ⟨a', cap, h1, h2, h3, .inr ⟨b, off, h4, h5, fun j x hx => ?_⟩⟩
    rw [World.cell?_setCell_other]
    · exact h6 j x hx
    · intro e
      have h7 := h6 j x hx
      rw [← e, hc] at h7
      simp only [Option.some.injEq] at h7
      subst h7
      simp [bvs] at hx
theorem RS.slot {w : World} {B q i : Nat} {u : Value} {L : List Nat} {er : Nat} {a : Option Addr} {n c : Nat} (h : RS w B L er) (hc : w.cell? ⟨q, i, none⟩ = some (.slice a n c)) (hne : q ≠ B) : RS (w.setCell ⟨q, i, none⟩ u) B L er := by
  obtain ⟨v, hb, hr⟩ := h
  exact ⟨v, hb.far (p := ⟨q, i, none⟩) (fun e => hne e.symm) u, hr.slot hc⟩
theorem wrap_m {m : Nat} (hm : m < 65536) : IntKind.i64.wrap (m : Int) = (m : Int) := IntWalk.i64_in _ ⟨by omega, by omega⟩
theorem rd_one (w : World) (u : Value) (t : TypeId) : Rd (w.alloc (.cells #[u] t)) (.slice (some ⟨w.heap.size, 0, none⟩) 1 1) [u] := by
  refine ⟨_, 1, rfl, Nat.le_refl _, by unfold maxLen; omega, .inr ⟨_, 0, rfl, ?_⟩⟩
  intro j x hx
  cases j with
  | zero => simp at hx; subst hx; exact cell_new rfl
  | succ j => simp at hx
set_option maxRecDepth 100000 in
set_option maxHeartbeats 4000000 in
theorem takeParent_w (box hash : List Nat) (late : List Int) (B : Nat) (L0 L1 L2 R : List Nat) (w : World) (h : RS w B L0 0) (hrp : rpB box.length hash.length late = true) (hx : ∀ x ∈ late, 0 ≤ x ∧ x < 65536) (hn : late.length ≤ 200)
    (C1 : ∀ W, RS W B L0 0 → Calls Tryz.prog 76 #[.pointer (some ⟨B, 0, none⟩)] W (TakeP B W (box, L1, 0)))
    (C2 : ∀ W, RS W B L1 0 → Calls Tryz.prog 76 #[.pointer (some ⟨B, 0, none⟩)] W (TakeP B W (hash, L2, 0)))
    (C3 : ∀ W, RS W B L2 0 → Calls Tryz.prog 76 #[.pointer (some ⟨B, 0, none⟩)] W (TakeP B W (lateL late, R, 0))) :
    Calls Tryz.prog 209 #[.pointer (some ⟨B, 0, none⟩)] w (TkParP B w ⟨box, hash, late⟩ R) := by
  have hB := h.lt
  obtain ⟨g, hg⟩ : ∃ g, g = w.heap.size := ⟨_, rfl⟩
  have hz0 : (w.alloc (.cells #[.slice none 0 0, .slice none 0 0, .slice none 0 0] 52)).heap.size = g + 1 := by simp [hg]
  have hoa : Only B w (w.alloc (.cells #[.slice none 0 0, .slice none 0 0, .slice none 0 0] 52)) := (Only.refl _ _).alloc _
  have hg0 : Blk (w.alloc (.cells #[.slice none 0 0, .slice none 0 0, .slice none 0 0] 52)) g 52 #[.slice none 0 0, .slice none 0 0, .slice none 0 0] := by rw [hg]; exact Blk.new _ _ _
  have hrs0 := h.low ((Below.refl w.heap.size w).alloc (Nat.le_refl _) (.cells #[.slice none 0 0, .slice none 0 0, .slice none 0 0] 52)) hB
  have HB := Lib.hid (show B < g by omega)
  have HG := Lib.hid hg
  have HZ0 := Lib.hid hz0
  have HOA := Lib.hid hoa
  have HG0 := Lib.hid hg0
  have HC1 := Lib.hid (C1 _ hrs0)
  have HC2 := Lib.hid C2
  have HC3 := Lib.hid C3
  have HRP := Lib.hid hrp
  have HX := Lib.hid hx
  have HN := Lib.hid hn
  have HER := Lib.hid fun (L : List Nat) W => err_any B L 0 W
  have HLF := Lib.hid fun (b : Nat) (L : List Nat) W => left_any b L 0 W
  have HNR := Lib.hid newReader_any
  have HN4 := Lib.hid num4_any
  have HRG := Lib.hid @rightParent_any
  obtain ⟨S, hS⟩ : ∃ S, S = TkParP B w ⟨box, hash, late⟩ R := ⟨_, rfl⟩
  rw [← hS]
  have HS := Lib.hid hS
  clear h hB hg hz0 hoa hg0 hrs0 C1 C2 C3 hrp hx hn hS
  go_enter Tryz.func209, Tryz.ntmps209
  go_wp2_with fail
  refine HC1.out.mono ?_
  rintro e w1 ⟨v1, rfl, hown, hrs, honly⟩
  obtain ⟨a1, c1, rfl⟩ := own_len hown
  have HZ1 := Lib.hid (show g + 1 ≤ w1.heap.size by have := honly.size; have := HZ0.out; omega)
  have HI1 := Lib.hid (hown.mono (B' := g + 1) (by have := HZ0.out; omega))
  have HO1 := Lib.hid (HOA.out.trans honly)
  have HG1 := Lib.hid (HG0.out.only honly (by have := HB.out; omega))
  have HRS1 := Lib.hid hrs
  clear hown hrs honly
  go_wp2_with fail
  refine (HC2.out _ HRS1.out).mono ?_
  rintro e w2 ⟨v2, rfl, hown, hrs, honly⟩
  obtain ⟨a2, c2, rfl⟩ := own_len hown
  have HZ2 := Lib.hid (Nat.le_trans HZ1.out honly.size)
  have HI2 := Lib.hid (hown.mono (B' := g + 1) HZ1.out)
  replace HI1 := Lib.hid (HI1.out.only honly (by have := HB.out; omega))
  have HO2 := Lib.hid (HO1.out.trans honly)
  have HG2 := Lib.hid (HG1.out.only honly (by have := HB.out; omega))
  have HRS2 := Lib.hid hrs
  clear hown hrs honly
  obtain ⟨q, hq⟩ : ∃ q, q = w2.heap.size := ⟨_, rfl⟩
  have HQ := Lib.hid hq
  have HQK := Lib.hid (show Blk (w2.alloc (.cells #[.slice none 0 0, .slice none 0 0, .slice none 0 0] 52)) q 52 #[.slice none 0 0, .slice none 0 0, .slice none 0 0] by rw [hq]; exact Blk.new _ _ _)
  clear hq
  go_wp2_with (refine wpList_store_blk rfl 52 (.tmp 4) (.tmp 12) rfl w2.heap.size #[.slice a1 box.length c1, .slice a2 hash.length c2, .slice none 0 0] rfl rfl 52 #[.slice none 0 0, .slice none 0 0, .slice none 0 0] (HQ.out ▸ HQK.out) (by kernel_rfl) rfl rfl ?_)
  rintro w5 hblk hbl hoth hsize
  have hb5 : Below q w2 w5 := by
    rw [HQ.out]
    exact ((Below.refl _ _).alloc (Nat.le_refl _) _).trans (hbl _ (Nat.le_refl _))
  have hq1 : g + 1 ≤ q := by rw [HQ.out]; exact HZ2.out
  replace HI1 := Lib.hid (HI1.out.below hb5 (by rw [HQ.out]; exact Nat.le_refl _))
  replace HI2 := Lib.hid (HI2.out.below hb5 (by rw [HQ.out]; exact Nat.le_refl _))
  have HG5 := Lib.hid (HG2.out.below hb5 (by omega))
  have HRS5 := Lib.hid (HRS2.out.low hb5 (by have := HB.out; omega))
  have HO5 := Lib.hid (only_b HO2.out (HQ.out ▸ hb5))
  rw [← HQ.out] at hblk ⊢
  have HP5 := Lib.hid hblk
  have HQ1 := Lib.hid hq1
  have HZ5 := Lib.hid (show q < w5.heap.size from hblk.lt)
  clear hblk hbl hoth hsize hb5 hq1
  go_wp2_with fail
  refine (HC3.out _ HRS5.out).mono ?_
  rintro e w6 ⟨v6, rfl, hown, hrs, honly⟩
  have HZ6 := Lib.hid (Nat.lt_of_lt_of_le HZ5.out honly.size)
  replace HI1 := Lib.hid (HI1.out.only honly (by have := HB.out; omega))
  replace HI2 := Lib.hid (HI2.out.only honly (by have := HB.out; omega))
  have HO6 := Lib.hid (HO5.out.trans honly)
  have HG6 := Lib.hid (HG5.out.only honly (by have := HB.out; omega))
  have HP6 := Lib.hid (HP5.out.only honly (by have := HB.out; have := HQ1.out; omega))
  have HRS6 := Lib.hid hrs
  have HV6 := Lib.hid hown.rd
  clear hown hrs honly
  go_wp2_with fail
  refine (HER.out _ _ HRS6.out).mono ?_
  rintro e w' ⟨rfl, rfl⟩
  go_wp2_with fail
  refine (HNR.out _ _ _ HV6.out).mono ?_
  rintro e w7 ⟨rfl, hrs, hb⟩
  obtain ⟨r, hr⟩ : ∃ r, r = w6.heap.size := ⟨_, rfl⟩
  rw [← hr] at hrs hb ⊢
  have hqr : q < r := by rw [hr]; exact HZ6.out
  have h67 : Below w6.heap.size w6 w7 := by rw [← hr]; exact hb
  have HR := Lib.hid hr
  have HQR := Lib.hid hqr
  have HRL := Lib.hid hrs
  have H67 := Lib.hid (show Only q w6 w7 from Only.of h67)
  have HP7 := Lib.hid (HP6.out.below h67 HZ6.out)
  clear hr hqr hrs hb h67
  obtain ⟨n, hN⟩ : ∃ n, n = late.length := ⟨_, rfl⟩
  have HNL := Lib.hid hN
  clear hN
  go_wp2_with fail
  go_loopg [] n (fun k wr => ∃ j : Nat, j + k = n ∧ ∃ lv, RS wr r (lateL (late.drop j)) 0 ∧ Blk wr q 52 #[.slice a1 box.length c1, .slice a2 hash.length c2, lv] ∧ Own wr (r + 1) 3 lv (ivs .i64 (late.take j)) ∧ Only q w6 wr)
  case atStart => exact ⟨0, by omega, _, HRL.out, HP7.out, Own.nil _ _ _, H67.out⟩
  case round =>
    obtain ⟨j, hj, lv, hrs, hblk, hown, honly⟩ := hrel
    have HRS := Lib.hid hrs
    have HPK := Lib.hid hblk
    have HOW := Lib.hid hown
    have HON := Lib.hid honly
    clear hrs hblk hown honly
    obtain ⟨ll, hll⟩ : ∃ l, l = (lateL (late.drop j)).length := ⟨_, rfl⟩
    have hl4 := lateL_len (late.drop j)
    rw [List.length_drop, ← HNL.out] at hl4
    have HLC := HLF.out r _ wr HRS.out
    rw [← hll] at HLC hl4
    have HL := Lib.hid HLC
    have HJ := Lib.hid hj
    have HL4 := Lib.hid hl4
    clear HLC hll hl4
    by_cases hjn : j < n
    · obtain ⟨al, cl, rfl⟩ := own_leni HOW.out
      go_wp2_with fail
      refine HL.out.mono ?_
      rintro e w' ⟨rfl, rfl⟩
      have hd : decide ((ll : Int) ≥ 4) = true := decide_eq_true (by have := HL4.out; omega)
      have hd' : decide ((4 : Int) ≤ (ll : Int)) = true := decide_eq_true (by have := HL4.out; omega)
      obtain ⟨x, hx⟩ : ∃ x, x = late.getD j 0 := ⟨_, rfl⟩
      have hjl : j < late.length := by rw [← HNL.out]; exact hjn
      have hxg : x = late[j] := by rw [hx, List.getD_eq_getElem?_getD, List.getElem?_eq_getElem hjl]; rfl
      have HE := Lib.hid (show late.drop j = x :: late.drop (j + 1) by rw [List.drop_eq_getElem_cons hjl, hxg])
      have HT := Lib.hid (show late.take (j + 1) = late.take j ++ [x] by rw [List.take_add_one, List.getElem?_eq_getElem hjl, hxg]; rfl)
      have hxb := HX.out x (by rw [hxg]; exact List.getElem_mem _)
      have HXB := Lib.hid hxb
      have HRS' := HRS.out
      rw [HE.out] at HRS'
      have HRX := Lib.hid HRS'
      have hjb : (late.take j).length = j := by rw [List.length_take]; omega
      have HJN := Lib.hid hjn
      obtain ⟨m, rfl⟩ : ∃ m : Nat, x = (m : Int) := ⟨x.toNat, by omega⟩
      obtain ⟨lj, hlj⟩ : ∃ l, l = (late.take j).length := ⟨_, rfl⟩
      rw [← hlj] at hjb
      have HLJ := Lib.hid hlj
      have HC := Lib.hid (show ∀ W, RS W r (lateL ((m : Int) :: late.drop (j + 1))) 0 → Calls Tryz.prog 207 #[.pointer (some ⟨r, 0, none⟩), .int .i64 4] W fun e W' => e = .returned (.int .u64 (m : Nat)) ∧ RS W' r (lateL (late.drop (j + 1))) 0 ∧ Only r W W' from fun W h => by
        have := HN4.out r (m : Int) (late.drop (j + 1)) hxb (lateL_lt _) W h
        rwa [Int.toNat_natCast] at this)
      have y2 := HPK.out.cell 2
      have z2 := HPK.out.frozen 2
      simp only [List.getElem?_toArray, List.getElem?_cons_zero, List.getElem?_cons_succ] at y2
      have hm : m < 65536 := by omega
      rw [← hlj] at y2 HPK HOW
      clear hj hx hjl hxg hxb HRS' hlj hjb hjn
      go_wp2_with fail
      have hwm : IntKind.i64.wrap (m : Int) = (m : Int) := wrap_m hm
      go_region_law (first
        | (go_simp; go_at_call 207; refine (HC.out _ (show RS wr.drew r _ 0 from HRX.out)).mono ?_; rintro e w8 ⟨rfl, hrs8, ho8⟩; have hp8 := Lib.hid (Blk.only (show Blk wr.drew q 52 #[.slice a1 box.length c1, .slice a2 hash.length c2, .slice al lj cl] from HPK.out) ho8 (by have := HQR.out; omega)); have y8 := hp8.out.cell 2; have y8a := (hp8.out.alloc (.cells #[.int .i64 (m : Int)] 3)).cell 2; simp only [List.getElem?_toArray, List.getElem?_cons_zero, List.getElem?_cons_succ] at y8 y8a)
        | (refine step_app rfl (.tmp 27) (.tmp 31) 50 rfl (r + 1) 3 _ 8 intsE (.slice al lj cl) (ivs .i64 (late.take j)) rfl (((show Own wr.drew (r + 1) 3 (.slice al lj cl) (ivs .i64 (late.take j)) from HOW.out).only ho8 (Nat.lt_succ_self _)).alloc _) _ [.int .i64 (m : Int)] rfl (rd_one _ _ _) (by simp [Value.oneCell']) (by rw [ivs_len']; simp; have := HN.out; have := HLJ.out; have := List.length_take_le j late; omega) (by have := hrs8.lt; simp; omega) ?_; rintro v9 w9 hown9 hb9; obtain ⟨a9, n9, c9, rfl⟩ := slOf' hown9; have hp9 := Lib.hid ((hp8.out.alloc _).below hb9 (by have := HQR.out; omega)); have y9 := hp9.out.cell 2; have z9 := hp9.out.frozen 2; simp only [List.getElem?_toArray, List.getElem?_cons_zero, List.getElem?_cons_succ] at y9))
      all_goals
        go_wp2_with fail
        go_roundg (gk - 1)
        case measure => have := HJ.out; have := HJN.out; omega
        case rel =>
          refine ⟨j + 1, by have := HJ.out; have := HJN.out; omega, .slice a9 n9 c9, ?_, ?_, ?_, ?_⟩
          · have hr8 := hrs8.lt
            have hb89 := ((Below.refl (r + 1) w8).alloc hr8 (.cells #[.int .i64 (m : Int)] 3)).trans hb9
            exact (hrs8.low hb89 (Nat.lt_succ_self _)).slot y9 (by have := HQR.out; omega)
          · simpa using hp9.out.set 2 (.slice a9 n9 c9)
          · have := hown9.setLow (p := ⟨q, 2, none⟩) (by have := HQR.out; simp only; omega) (.slice a9 n9 c9)
            rw [HT.out, ivs, List.map_append]
            exact this
          · have hr8 := hrs8.lt
            have hb89 := ((Below.refl (r + 1) w8).alloc hr8 (.cells #[.int .i64 (m : Int)] 3)).trans hb9
            have h8 : Below r wr w8 := (Below.draw1 (Below.refl r wr)).trans (ho8.below (Nat.le_refl _) (Nat.le_of_lt HRX.out.lt))
            exact (HON.out.then (HR.out ▸ (h8.trans (hb89.mono (Nat.le_succ _))))).trans (Only.set 2 _)
    · obtain rfl : j = n := by have := HJ.out; omega
      have ht : late.take j = late := by rw [HNL.out, List.take_length]
      have hl0 := HLF.out r _ wr HRS.out
      have hd0 : late.drop j = [] := by rw [HNL.out, List.drop_length]
      rw [hd0] at hl0
      have HL0 := Lib.hid (show Calls Tryz.prog 143 #[.pointer (some ⟨r, 0, none⟩)] wr fun e w' => e = .returned (.int .i64 0) ∧ wr = w' from hl0)
      have how := HOW.out
      rw [ht] at how
      obtain ⟨al, cl, rfl⟩ := own_leni how
      have HOL := Lib.hid how
      have hz6 := HON.out.size
      clear hl0 hd0 ht how hjn
      go_wp2_with fail
      refine HL0.out.mono ?_
      rintro e w' ⟨rfl, rfl⟩
      go_wp2_with fail
      refine HL0.out.mono ?_
      rintro e w' ⟨rfl, rfl⟩
      go_wp2_with (refine wpList_wanted rfl ?_; refine wpList_load_at rfl 52 (.tmp 4) rfl q rfl 52 #[.slice a1 box.length c1, .slice a2 hash.length c2, .slice al late.length cl] (0, 0) _ HPK.out Tryz.underlying52 rfl (by kernel_rfl) ?_)
      refine (HRG.out a1 a2 al box.length hash.length c1 c2 cl late wr HOL.out.rd).mono ?_
      rintro e w10 ⟨rfl, hb⟩
      rw [show rpB box.length hash.length late = true from HRP.out]
      have HP10 := Lib.hid (HPK.out.below hb HPK.out.lt)
      have HG10 := Lib.hid ((HG6.out.only HON.out (by have := HQ1.out; omega)).below hb (HG6.out.only HON.out (by have := HQ1.out; omega)).lt)
      have HRS10 := Lib.hid ((HRS6.out.only HON.out (by have := HB.out; have := HQ1.out; omega) (Nat.le_of_lt HZ6.out)).below hb)
      have HO10 := Lib.hid (only_b (HO6.out.then (HON.out.below (C := w.heap.size) (by have := HQ1.out; have := HG.out; omega) HO6.out.size)) hb)
      have K1 := Lib.hid ((HI1.out.other HP6.out (by decide) (fun i hi hne => HON.out.block i hi (fun e => hne (by simpa using e)))).below hb (Nat.le_refl _))
      have K2 := Lib.hid ((HI2.out.other HP6.out (by decide) (fun i hi hne => HON.out.block i hi (fun e => hne (by simpa using e)))).below hb (Nat.le_refl _))
      have K3 := Lib.hid (HOL.out.below hb (Nat.le_refl _))
      clear hb
      go_wp2_with (first
        | (refine wpList_load_at rfl 52 (.tmp 4) rfl q rfl 52 #[.slice a1 box.length c1, .slice a2 hash.length c2, .slice al late.length cl] (0, 0) _ HP10.out Tryz.underlying52 rfl (by kernel_rfl) ?_)
        | (refine wpList_store_blk rfl 52 (.tmp 2) (.tmp 43) rfl w.heap.size #[.slice a1 box.length c1, .slice a2 hash.length c2, .slice al late.length cl] rfl rfl 52 #[.slice none 0 0, .slice none 0 0, .slice none 0 0] (HG.out ▸ HG10.out) (by kernel_rfl) rfl rfl ?_))
      rintro w11 hblk hbl hoth hsize
      rw [← HG.out] at hblk hbl hoth
      have HP11 := Lib.hid hblk
      have hb11 := hbl g (Nat.le_refl _)
      have HRS11 := Lib.hid (HRS10.out.low hb11 HB.out)
      have HO11 := Lib.hid (only_low HO10.out (show Below w.heap.size w10 w11 from HG.out ▸ hb11))
      replace K1 := Lib.hid ((K1.out.other HG10.out (by decide) (fun i _ hi => hoth i hi)).mono (B' := g) (Nat.le_succ _))
      replace K2 := Lib.hid ((K2.out.other HG10.out (by decide) (fun i _ hi => hoth i hi)).mono (B' := g) (Nat.le_succ _))
      replace K3 := Lib.hid ((K3.out.other HG10.out (by decide) (fun i _ hi => hoth i hi)).mono (B' := g) (by have := HQ1.out; have := HQR.out; omega))
      clear hblk hbl hoth hsize hb11
      go_wp2_with fail
      refine bodyPost_ret (v := .tuple #[.agg #[.slice a1 box.length c1, .slice a2 hash.length c2, .slice al late.length cl], .int .u8 0]) (results_row2 Tryz.results209 _ _ w.heap.size _ _ _ rfl (HG.out ▸ HP11.out) Tryz.underlying52 rfl (by kernel_rfl)) rfl ?_
      rw [HS.out]
      refine ⟨_, rfl, ?_, HRS11.out, HO11.out⟩
      rw [← HG.out]
      exact ⟨_, _, _, rfl, K1.out, K2.out, K3.out⟩
theorem takeParent_on (d : ParD) (B : Nat) (R : List Nat) (w : World) (hr : rpB d.box.length d.hash.length d.late = true) (hn : d.late.length ≤ 200) (hlt : ∀ x ∈ parB d ++ R, x < 256) (hR : R.length < 900000000) (h : RS w B (parB d ++ R) 0) :
    Calls Tryz.prog 209 #[.pointer (some ⟨B, 0, none⟩)] w (TkParP B w d R) := by
  obtain ⟨box, hash, late⟩ := d
  have h' := hr
  unfold rpB at h'
  rw [Bool.and_eq_true] at h'
  have hb := of_decide_eq_true h'.2
  have hx := late_bd h'.1
  simp only at hb hx hn
  have hll := lateL_len late
  have e0 : parB ⟨box, hash, late⟩ ++ R = vecB box ++ (vecB hash ++ (vecB (lateL late) ++ R)) := by simp [parB]
  rw [e0] at h hlt
  have l1 := vecB_len box (by omega)
  have l2 := vecB_len hash (by omega)
  have l3 := vecB_len (lateL late) (by omega)
  have C1 := vec_put B box (vecB hash ++ (vecB (lateL late) ++ R)) (by omega) (by simp only [List.length_append]; omega) hlt
  have C2 := vec_put B hash (vecB (lateL late) ++ R) (by omega) (by simp only [List.length_append]; omega) (fun x hx => hlt x (List.mem_append_right _ hx))
  have C3 := vec_put B (lateL late) R (by omega) (by omega) (fun x hx => hlt x (List.mem_append_right _ (List.mem_append_right _ hx)))
  exact takeParent_w box hash late B _ _ _ R w h hr hx hn C1 C2 C3
end Go.Proofs.YtngealmhgkoaiaaGreat
/- Walk: node.Take on the bytes of a right node gives that node. -/
namespace Go.Proofs.YtngealmhgkoaiaaGreat
open Go.RowKit WireM
set_option linter.unusedVariables false
/-- what Take answers -/
def TkNodeP (B : Nat) (w : World) (d : NodeD) (R : List Nat) (e : Ending) (w' : World) : Prop :=
  ∃ c, e = .returned (.tuple #[.agg c, .int .u8 0]) ∧ NodeO w' w.heap.size d c ∧ RS w' B R 0 ∧ Only B w w'
set_option maxRecDepth 100000 in
set_option maxHeartbeats 4000000 in
theorem takeNode_0 (B : Nat) (M R : List Nat) (w : World) (h : RS w B (0 :: M) 0) (hx : ∀ x ∈ 0 :: M, x < 256) (hMR : M = R) :
    Calls Tryz.prog 144 #[.pointer (some ⟨B, 0, none⟩)] w (TkNodeP B w noNodeD R) := by
  have hB := h.lt
  subst hMR
  obtain ⟨g, hg⟩ : ∃ g, g = w.heap.size := ⟨_, rfl⟩
  have hoa : Only B w (w.alloc (.cells #[.int .u8 0, .slice none 0 0, .slice none 0 0, .slice none 0 0, .int .u8 0, .slice none 0 0, .slice none 0 0, .slice none 0 0, .slice none 0 0, .slice none 0 0] 54)) := (Only.refl _ _).alloc _
  have hg0 : Blk (w.alloc (.cells #[.int .u8 0, .slice none 0 0, .slice none 0 0, .slice none 0 0, .int .u8 0, .slice none 0 0, .slice none 0 0, .slice none 0 0, .slice none 0 0, .slice none 0 0] 54)) g 54 #[.int .u8 0, .slice none 0 0, .slice none 0 0, .slice none 0 0, .int .u8 0, .slice none 0 0, .slice none 0 0, .slice none 0 0, .slice none 0 0, .slice none 0 0] := by rw [hg]; exact Blk.new _ _ _
  have hrs0 := h.low ((Below.refl w.heap.size w).alloc (Nat.le_refl _) (.cells #[.int .u8 0, .slice none 0 0, .slice none 0 0, .slice none 0 0, .int .u8 0, .slice none 0 0, .slice none 0 0, .slice none 0 0, .slice none 0 0, .slice none 0 0] 54)) hB
  have HB := Lib.hid (show B < g by omega)
  have HG := Lib.hid hg
  have HOA := Lib.hid hoa
  have HG0 := Lib.hid hg0
  have HC1 := Lib.hid (show Calls Tryz.prog 207 #[.pointer (some ⟨B, 0, none⟩), .int .i64 1] (w.alloc (.cells #[.int .u8 0, .slice none 0 0, .slice none 0 0, .slice none 0 0, .int .u8 0, .slice none 0 0, .slice none 0 0, .slice none 0 0, .slice none 0 0, .slice none 0 0] 54)) fun e W' => e = .returned (.int .u64 0) ∧ RS W' B M 0 ∧ Only B (w.alloc (.cells #[.int .u8 0, .slice none 0 0, .slice none 0 0, .slice none 0 0, .int .u8 0, .slice none 0 0, .slice none 0 0, .slice none 0 0, .slice none 0 0, .slice none 0 0] 54)) W' from num1_any B 0 M (by omega) hx _ hrs0)
  have HER := Lib.hid fun (L : List Nat) W => err_any B L 0 W
  obtain ⟨S, hS⟩ : ∃ S, S = TkNodeP B w noNodeD M := ⟨_, rfl⟩
  rw [← hS]
  have HS := Lib.hid hS
  clear h hB hg hoa hg0 hrs0 hS hx
  go_enter Tryz.func144, Tryz.ntmps144
  go_wp2_with fail
  refine HC1.out.mono ?_
  rintro e w1 ⟨rfl, hrs, honly⟩
  have HO1 := Lib.hid (HOA.out.trans honly)
  have HG1 := Lib.hid (HG0.out.only honly (by have := HB.out; omega))
  have HRS1 := Lib.hid hrs
  clear hrs honly
  obtain ⟨q, hq⟩ : ∃ q, q = w1.heap.size := ⟨_, rfl⟩
  have HQ := Lib.hid hq
  have HQK := Lib.hid (show Blk (w1.alloc (.cells #[.int .u8 0, .slice none 0 0, .slice none 0 0, .slice none 0 0, .int .u8 0, .slice none 0 0, .slice none 0 0, .slice none 0 0, .slice none 0 0, .slice none 0 0] 54)) q 54 #[.int .u8 0, .slice none 0 0, .slice none 0 0, .slice none 0 0, .int .u8 0, .slice none 0 0, .slice none 0 0, .slice none 0 0, .slice none 0 0, .slice none 0 0] by rw [hq]; exact Blk.new _ _ _)
  clear hq
  go_wp2_with (refine wpList_store_blk rfl 54 (.tmp 4) (.tmp 9) rfl w1.heap.size #[.int .u8 0, .slice none 0 0, .slice none 0 0, .slice none 0 0, .int .u8 0, .slice none 0 0, .slice none 0 0, .slice none 0 0, .slice none 0 0, .slice none 0 0] rfl rfl 54 #[.int .u8 0, .slice none 0 0, .slice none 0 0, .slice none 0 0, .int .u8 0, .slice none 0 0, .slice none 0 0, .slice none 0 0, .slice none 0 0, .slice none 0 0] (HQ.out ▸ HQK.out) (by kernel_rfl) rfl rfl ?_)
  rintro w5 hblk hbl hoth hsize
  have hb5 : Below q w1 w5 := by
    rw [HQ.out]
    exact ((Below.refl _ _).alloc (Nat.le_refl _) _).trans (hbl _ (Nat.le_refl _))
  have hq1 : g + 1 ≤ q := by rw [HQ.out]; exact HG1.out.lt
  have HG5 := Lib.hid (HG1.out.below hb5 (by omega))
  have HRS5 := Lib.hid (HRS1.out.low hb5 (by have := HB.out; omega))
  have HO5 := Lib.hid (only_b HO1.out (HQ.out ▸ hb5))
  rw [← HQ.out] at hblk ⊢
  have HP5 := Lib.hid hblk
  have HQ1 := Lib.hid hq1
  have HZ5 := Lib.hid (show q < w5.heap.size from hblk.lt)
  have y0 := hblk.cell 0
  have z0 := hblk.frozen 0
  simp only [List.getElem?_toArray, List.getElem?_cons_zero] at y0
  clear hblk hbl hoth hsize hb5 hq1
  go_wp2_with fail
  refine (HER.out _ _ HRS5.out).mono ?_
  rintro e w' ⟨rfl, rfl⟩
  have HPF := Lib.hid HP5.out
  have HGF := Lib.hid HG5.out
  have HRF := Lib.hid HRS5.out
  have HOF := Lib.hid HO5.out
  go_wp2_with (first
    | (refine wpList_load_at rfl 54 (.tmp 4) rfl q rfl 54 #[.int .u8 0, .slice none 0 0, .slice none 0 0, .slice none 0 0, .int .u8 0, .slice none 0 0, .slice none 0 0, .slice none 0 0, .slice none 0 0, .slice none 0 0] (0, 0) _ HPF.out Tryz.underlying54 rfl (by kernel_rfl) ?_)
    | (refine wpList_store_blk rfl 54 (.tmp 2) (.tmp 20) rfl w.heap.size #[.int .u8 0, .slice none 0 0, .slice none 0 0, .slice none 0 0, .int .u8 0, .slice none 0 0, .slice none 0 0, .slice none 0 0, .slice none 0 0, .slice none 0 0] rfl rfl 54 #[.int .u8 0, .slice none 0 0, .slice none 0 0, .slice none 0 0, .int .u8 0, .slice none 0 0, .slice none 0 0, .slice none 0 0, .slice none 0 0, .slice none 0 0] (HG.out ▸ HGF.out) (by kernel_rfl) rfl rfl ?_))
  rintro w11 hblk hbl hoth hsize
  rw [← HG.out] at hblk hbl hoth
  have HP11 := Lib.hid hblk
  have hb11 := hbl g (Nat.le_refl _)
  have HRS11 := Lib.hid (HRF.out.low hb11 HB.out)
  have HO11 := Lib.hid (only_low HOF.out (show Below w.heap.size w5 w11 from HG.out ▸ hb11))
  clear hblk hbl hoth hsize hb11
  go_wp2_with fail
  refine bodyPost_ret (v := .tuple #[.agg #[.int .u8 0, .slice none 0 0, .slice none 0 0, .slice none 0 0, .int .u8 0, .slice none 0 0, .slice none 0 0, .slice none 0 0, .slice none 0 0, .slice none 0 0], .int .u8 0]) (results_row2 Tryz.results144 _ _ w.heap.size _ _ _ rfl (HG.out ▸ HP11.out) Tryz.underlying54 rfl (by kernel_rfl)) rfl ?_
  rw [HS.out]
  refine ⟨_, rfl, ?_, HRS11.out, HO11.out⟩
  rw [← HG.out]
  exact noNode_o _ _
set_option maxRecDepth 100000 in
set_option maxHeartbeats 4000000 in
theorem takeNode_1 (l : LeafD) (B : Nat) (M R : List Nat) (w : World) (h : RS w B (1 :: M) 0) (hx : ∀ x ∈ 1 :: M, x < 256)
    (CL : ∀ W, RS W B M 0 → Calls Tryz.prog 208 #[.pointer (some ⟨B, 0, none⟩)] W (TkLeafP B W l R)) :
    Calls Tryz.prog 144 #[.pointer (some ⟨B, 0, none⟩)] w (TkNodeP B w ⟨1, l, noParD⟩ R) := by
  have hB := h.lt
  obtain ⟨g, hg⟩ : ∃ g, g = w.heap.size := ⟨_, rfl⟩
  have hoa : Only B w (w.alloc (.cells #[.int .u8 0, .slice none 0 0, .slice none 0 0, .slice none 0 0, .int .u8 0, .slice none 0 0, .slice none 0 0, .slice none 0 0, .slice none 0 0, .slice none 0 0] 54)) := (Only.refl _ _).alloc _
  have hg0 : Blk (w.alloc (.cells #[.int .u8 0, .slice none 0 0, .slice none 0 0, .slice none 0 0, .int .u8 0, .slice none 0 0, .slice none 0 0, .slice none 0 0, .slice none 0 0, .slice none 0 0] 54)) g 54 #[.int .u8 0, .slice none 0 0, .slice none 0 0, .slice none 0 0, .int .u8 0, .slice none 0 0, .slice none 0 0, .slice none 0 0, .slice none 0 0, .slice none 0 0] := by rw [hg]; exact Blk.new _ _ _
  have hrs0 := h.low ((Below.refl w.heap.size w).alloc (Nat.le_refl _) (.cells #[.int .u8 0, .slice none 0 0, .slice none 0 0, .slice none 0 0, .int .u8 0, .slice none 0 0, .slice none 0 0, .slice none 0 0, .slice none 0 0, .slice none 0 0] 54)) hB
  have HB := Lib.hid (show B < g by omega)
  have HG := Lib.hid hg
  have HOA := Lib.hid hoa
  have HG0 := Lib.hid hg0
  have HC1 := Lib.hid (show Calls Tryz.prog 207 #[.pointer (some ⟨B, 0, none⟩), .int .i64 1] (w.alloc (.cells #[.int .u8 0, .slice none 0 0, .slice none 0 0, .slice none 0 0, .int .u8 0, .slice none 0 0, .slice none 0 0, .slice none 0 0, .slice none 0 0, .slice none 0 0] 54)) fun e W' => e = .returned (.int .u64 1) ∧ RS W' B M 0 ∧ Only B (w.alloc (.cells #[.int .u8 0, .slice none 0 0, .slice none 0 0, .slice none 0 0, .int .u8 0, .slice none 0 0, .slice none 0 0, .slice none 0 0, .slice none 0 0, .slice none 0 0] 54)) W' from num1_any B 1 M (by omega) hx _ hrs0)
  have HER := Lib.hid fun (L : List Nat) W => err_any B L 0 W
  have HCL := Lib.hid CL
  obtain ⟨S, hS⟩ : ∃ S, S = TkNodeP B w ⟨1, l, noParD⟩ R := ⟨_, rfl⟩
  rw [← hS]
  have HS := Lib.hid hS
  clear h hB hg hoa hg0 hrs0 hS hx CL
  go_enter Tryz.func144, Tryz.ntmps144
  go_wp2_with fail
  refine HC1.out.mono ?_
  rintro e w1 ⟨rfl, hrs, honly⟩
  have HO1 := Lib.hid (HOA.out.trans honly)
  have HG1 := Lib.hid (HG0.out.only honly (by have := HB.out; omega))
  have HRS1 := Lib.hid hrs
  clear hrs honly
  obtain ⟨q, hq⟩ : ∃ q, q = w1.heap.size := ⟨_, rfl⟩
  have HQ := Lib.hid hq
  have HQK := Lib.hid (show Blk (w1.alloc (.cells #[.int .u8 0, .slice none 0 0, .slice none 0 0, .slice none 0 0, .int .u8 0, .slice none 0 0, .slice none 0 0, .slice none 0 0, .slice none 0 0, .slice none 0 0] 54)) q 54 #[.int .u8 0, .slice none 0 0, .slice none 0 0, .slice none 0 0, .int .u8 0, .slice none 0 0, .slice none 0 0, .slice none 0 0, .slice none 0 0, .slice none 0 0] by rw [hq]; exact Blk.new _ _ _)
  clear hq
  go_wp2_with (refine wpList_store_blk rfl 54 (.tmp 4) (.tmp 9) rfl w1.heap.size #[.int .u8 1, .slice none 0 0, .slice none 0 0, .slice none 0 0, .int .u8 0, .slice none 0 0, .slice none 0 0, .slice none 0 0, .slice none 0 0, .slice none 0 0] rfl rfl 54 #[.int .u8 0, .slice none 0 0, .slice none 0 0, .slice none 0 0, .int .u8 0, .slice none 0 0, .slice none 0 0, .slice none 0 0, .slice none 0 0, .slice none 0 0] (HQ.out ▸ HQK.out) (by kernel_rfl) rfl rfl ?_)
  rintro w5 hblk hbl hoth hsize
  have hb5 : Below q w1 w5 := by
    rw [HQ.out]
    exact ((Below.refl _ _).alloc (Nat.le_refl _) _).trans (hbl _ (Nat.le_refl _))
  have hq1 : g + 1 ≤ q := by rw [HQ.out]; exact HG1.out.lt
  have HG5 := Lib.hid (HG1.out.below hb5 (by omega))
  have HRS5 := Lib.hid (HRS1.out.low hb5 (by have := HB.out; omega))
  have HO5 := Lib.hid (only_b HO1.out (HQ.out ▸ hb5))
  rw [← HQ.out] at hblk ⊢
  have HP5 := Lib.hid hblk
  have HQ1 := Lib.hid hq1
  have HZ5 := Lib.hid (show q < w5.heap.size from hblk.lt)
  have y0 := hblk.cell 0
  have z0 := hblk.frozen 0
  simp only [List.getElem?_toArray, List.getElem?_cons_zero] at y0
  clear hblk hbl hoth hsize hb5 hq1
  go_wp2_with fail
  refine (HER.out _ _ HRS5.out).mono ?_
  rintro e w' ⟨rfl, rfl⟩
  go_wp2_with fail
  refine (HCL.out _ HRS5.out).mono ?_
  rintro e w6 ⟨c, rfl, hl, hrs, honly⟩
  obtain ⟨x0, x1, x2, x3, x4, rfl, o0, o1, o2, o3, o4⟩ := hl
  obtain ⟨s, hs⟩ : ∃ s, s = l.source := ⟨_, rfl⟩
  rw [← hs]
  have HSRC := Lib.hid hs
  clear hs
  have HP6 := Lib.hid (HP5.out.only honly (by have := HB.out; have := HQ1.out; omega))
  have HG6 := Lib.hid (HG5.out.only honly (by have := HB.out; omega))
  have HO6 := Lib.hid (HO5.out.trans honly)
  have HRS6 := Lib.hid hrs
  have HONE := Lib.hid (show (#[x0, x1, x2, .int .u8 (s : Nat), x3, x4] : Array Value).all (·.oneCell') = true by
    rw [← Array.all_toList]; simp only [List.all_cons, List.all_nil, o0.oneCell, o1.oneCell, o2.oneCell, o3.oneCell, o4.oneCell]; rfl)
  have I0 := Lib.hid (o0.mono (B' := g + 1) (by have := HZ5.out; have := HQ1.out; omega))
  have I1 := Lib.hid (o1.mono (B' := g + 1) (by have := HZ5.out; have := HQ1.out; omega))
  have I2 := Lib.hid (o2.mono (B' := g + 1) (by have := HZ5.out; have := HQ1.out; omega))
  have I3 := Lib.hid (o3.mono (B' := g + 1) (by have := HZ5.out; have := HQ1.out; omega))
  have I4 := Lib.hid (o4.mono (B' := g + 1) (by have := HZ5.out; have := HQ1.out; omega))
  have HZ6 := Lib.hid (show q < w6.heap.size from HP6.out.lt)
  clear honly hrs o0 o1 o2 o3 o4
  obtain ⟨wr, hwr⟩ : ∃ X, X = w6.setCells q 1 [x0, x1, x2, .int .u8 (s : Nat), x3, x4] := ⟨_, rfl⟩
  have HWR := Lib.hid hwr
  have hon : Only q w6 wr := by rw [hwr]; exact grownBy_setCells _ _
  have HPF := Lib.hid (show Blk wr q 54 #[.int .u8 1, x0, x1, x2, .int .u8 (s : Nat), x3, x4, .slice none 0 0, .slice none 0 0, .slice none 0 0] by
    rw [hwr]
    exact ((((((HP6.out.set 1 (x0)).set 2 (x1)).set 3 (x2)).set 4 (.int .u8 (s : Nat))).set 5 (x3)).set 6 (x4)))
  have HGF := Lib.hid (HG6.out.only hon (by have := HQ1.out; omega))
  have HRF := Lib.hid (HRS6.out.only hon (by have := HB.out; have := HQ1.out; omega) (Nat.le_of_lt HZ6.out))
  have HOF := Lib.hid (HO6.out.then (hon.below (C := w.heap.size) (by have := HQ1.out; have := HG.out; omega) HO6.out.size))
  replace I0 := Lib.hid (I0.out.other HP6.out (by decide) (fun i hi hne => hon.block i hi (fun e => hne (by simpa using e))))
  replace I1 := Lib.hid (I1.out.other HP6.out (by decide) (fun i hi hne => hon.block i hi (fun e => hne (by simpa using e))))
  replace I2 := Lib.hid (I2.out.other HP6.out (by decide) (fun i hi hne => hon.block i hi (fun e => hne (by simpa using e))))
  replace I3 := Lib.hid (I3.out.other HP6.out (by decide) (fun i hi hne => hon.block i hi (fun e => hne (by simpa using e))))
  replace I4 := Lib.hid (I4.out.other HP6.out (by decide) (fun i hi hne => hon.block i hi (fun e => hne (by simpa using e))))
  clear hon hwr
  go_wp2_with (first
    | (refine wpList_store_mid rfl 49 (.tmp 28) (.tmp 26) rfl q 1 #[x0, x1, x2, .int .u8 (s : Nat), x3, x4] rfl rfl (HP6.out.there 1 6 (by simp)) (by kernel_rfl) HONE.out ?_; rw [← HWR.out])
    | (refine wpList_load_at rfl 54 (.tmp 4) rfl q rfl 54 #[.int .u8 1, x0, x1, x2, .int .u8 (s : Nat), x3, x4, .slice none 0 0, .slice none 0 0, .slice none 0 0] (0, 0) _ HPF.out Tryz.underlying54 rfl (by kernel_rfl) ?_)
    | (refine wpList_store_blk rfl 54 (.tmp 2) (.tmp 41) rfl w.heap.size #[.int .u8 1, x0, x1, x2, .int .u8 (s : Nat), x3, x4, .slice none 0 0, .slice none 0 0, .slice none 0 0] rfl rfl 54 #[.int .u8 0, .slice none 0 0, .slice none 0 0, .slice none 0 0, .int .u8 0, .slice none 0 0, .slice none 0 0, .slice none 0 0, .slice none 0 0, .slice none 0 0] (HG.out ▸ HGF.out) (by kernel_rfl) rfl (by simp only [List.all_cons, List.all_nil, I0.out.oneCell, I1.out.oneCell, I2.out.oneCell, I3.out.oneCell, I4.out.oneCell]; rfl) ?_))
  rintro w11 hblk hbl hoth hsize
  rw [← HG.out] at hblk hbl hoth
  have HP11 := Lib.hid hblk
  have hb11 := hbl g (Nat.le_refl _)
  have HRS11 := Lib.hid (HRF.out.low hb11 HB.out)
  have HO11 := Lib.hid (only_low HOF.out (show Below w.heap.size wr w11 from HG.out ▸ hb11))
  replace I0 := Lib.hid ((I0.out.other HGF.out (by decide) (fun i _ hi => hoth i hi)).mono (B' := g) (Nat.le_succ _))
  replace I1 := Lib.hid ((I1.out.other HGF.out (by decide) (fun i _ hi => hoth i hi)).mono (B' := g) (Nat.le_succ _))
  replace I2 := Lib.hid ((I2.out.other HGF.out (by decide) (fun i _ hi => hoth i hi)).mono (B' := g) (Nat.le_succ _))
  replace I3 := Lib.hid ((I3.out.other HGF.out (by decide) (fun i _ hi => hoth i hi)).mono (B' := g) (Nat.le_succ _))
  replace I4 := Lib.hid ((I4.out.other HGF.out (by decide) (fun i _ hi => hoth i hi)).mono (B' := g) (Nat.le_succ _))
  clear hblk hbl hoth hsize hb11
  go_wp2_with fail
  refine bodyPost_ret (v := .tuple #[.agg #[.int .u8 1, x0, x1, x2, .int .u8 (s : Nat), x3, x4, .slice none 0 0, .slice none 0 0, .slice none 0 0], .int .u8 0]) (results_row2 Tryz.results144 _ _ w.heap.size _ _ _ rfl (HG.out ▸ HP11.out) Tryz.underlying54 rfl (by kernel_rfl)) rfl ?_
  rw [HS.out]
  refine ⟨_, rfl, ?_, HRS11.out, HO11.out⟩
  rw [← HG.out]
  rw [HSRC.out]
  exact ⟨_, _, _, _, _, _, _, _, rfl, I0.out, I1.out, I2.out, I3.out, I4.out, Own.nil _ _ _, Own.nil _ _ _, Own.nil _ _ _⟩
set_option maxRecDepth 100000 in
set_option maxHeartbeats 4000000 in
theorem takeNode_2 (l : ParD) (B : Nat) (M R : List Nat) (w : World) (h : RS w B (2 :: M) 0) (hx : ∀ x ∈ 2 :: M, x < 256)
    (CL : ∀ W, RS W B M 0 → Calls Tryz.prog 209 #[.pointer (some ⟨B, 0, none⟩)] W (TkParP B W l R)) :
    Calls Tryz.prog 144 #[.pointer (some ⟨B, 0, none⟩)] w (TkNodeP B w ⟨2, noLeafD, l⟩ R) := by
  have hB := h.lt
  obtain ⟨g, hg⟩ : ∃ g, g = w.heap.size := ⟨_, rfl⟩
  have hoa : Only B w (w.alloc (.cells #[.int .u8 0, .slice none 0 0, .slice none 0 0, .slice none 0 0, .int .u8 0, .slice none 0 0, .slice none 0 0, .slice none 0 0, .slice none 0 0, .slice none 0 0] 54)) := (Only.refl _ _).alloc _
  have hg0 : Blk (w.alloc (.cells #[.int .u8 0, .slice none 0 0, .slice none 0 0, .slice none 0 0, .int .u8 0, .slice none 0 0, .slice none 0 0, .slice none 0 0, .slice none 0 0, .slice none 0 0] 54)) g 54 #[.int .u8 0, .slice none 0 0, .slice none 0 0, .slice none 0 0, .int .u8 0, .slice none 0 0, .slice none 0 0, .slice none 0 0, .slice none 0 0, .slice none 0 0] := by rw [hg]; exact Blk.new _ _ _
  have hrs0 := h.low ((Below.refl w.heap.size w).alloc (Nat.le_refl _) (.cells #[.int .u8 0, .slice none 0 0, .slice none 0 0, .slice none 0 0, .int .u8 0, .slice none 0 0, .slice none 0 0, .slice none 0 0, .slice none 0 0, .slice none 0 0] 54)) hB
  have HB := Lib.hid (show B < g by omega)
  have HG := Lib.hid hg
  have HOA := Lib.hid hoa
  have HG0 := Lib.hid hg0
  have HC1 := Lib.hid (show Calls Tryz.prog 207 #[.pointer (some ⟨B, 0, none⟩), .int .i64 1] (w.alloc (.cells #[.int .u8 0, .slice none 0 0, .slice none 0 0, .slice none 0 0, .int .u8 0, .slice none 0 0, .slice none 0 0, .slice none 0 0, .slice none 0 0, .slice none 0 0] 54)) fun e W' => e = .returned (.int .u64 2) ∧ RS W' B M 0 ∧ Only B (w.alloc (.cells #[.int .u8 0, .slice none 0 0, .slice none 0 0, .slice none 0 0, .int .u8 0, .slice none 0 0, .slice none 0 0, .slice none 0 0, .slice none 0 0, .slice none 0 0] 54)) W' from num1_any B 2 M (by omega) hx _ hrs0)
  have HER := Lib.hid fun (L : List Nat) W => err_any B L 0 W
  have HCL := Lib.hid CL
  obtain ⟨S, hS⟩ : ∃ S, S = TkNodeP B w ⟨2, noLeafD, l⟩ R := ⟨_, rfl⟩
  rw [← hS]
  have HS := Lib.hid hS
  clear h hB hg hoa hg0 hrs0 hS hx CL
  go_enter Tryz.func144, Tryz.ntmps144
  go_wp2_with fail
  refine HC1.out.mono ?_
  rintro e w1 ⟨rfl, hrs, honly⟩
  have HO1 := Lib.hid (HOA.out.trans honly)
  have HG1 := Lib.hid (HG0.out.only honly (by have := HB.out; omega))
  have HRS1 := Lib.hid hrs
  clear hrs honly
  obtain ⟨q, hq⟩ : ∃ q, q = w1.heap.size := ⟨_, rfl⟩
  have HQ := Lib.hid hq
  have HQK := Lib.hid (show Blk (w1.alloc (.cells #[.int .u8 0, .slice none 0 0, .slice none 0 0, .slice none 0 0, .int .u8 0, .slice none 0 0, .slice none 0 0, .slice none 0 0, .slice none 0 0, .slice none 0 0] 54)) q 54 #[.int .u8 0, .slice none 0 0, .slice none 0 0, .slice none 0 0, .int .u8 0, .slice none 0 0, .slice none 0 0, .slice none 0 0, .slice none 0 0, .slice none 0 0] by rw [hq]; exact Blk.new _ _ _)
  clear hq
  go_wp2_with (refine wpList_store_blk rfl 54 (.tmp 4) (.tmp 9) rfl w1.heap.size #[.int .u8 2, .slice none 0 0, .slice none 0 0, .slice none 0 0, .int .u8 0, .slice none 0 0, .slice none 0 0, .slice none 0 0, .slice none 0 0, .slice none 0 0] rfl rfl 54 #[.int .u8 0, .slice none 0 0, .slice none 0 0, .slice none 0 0, .int .u8 0, .slice none 0 0, .slice none 0 0, .slice none 0 0, .slice none 0 0, .slice none 0 0] (HQ.out ▸ HQK.out) (by kernel_rfl) rfl rfl ?_)
  rintro w5 hblk hbl hoth hsize
  have hb5 : Below q w1 w5 := by
    rw [HQ.out]
    exact ((Below.refl _ _).alloc (Nat.le_refl _) _).trans (hbl _ (Nat.le_refl _))
  have hq1 : g + 1 ≤ q := by rw [HQ.out]; exact HG1.out.lt
  have HG5 := Lib.hid (HG1.out.below hb5 (by omega))
  have HRS5 := Lib.hid (HRS1.out.low hb5 (by have := HB.out; omega))
  have HO5 := Lib.hid (only_b HO1.out (HQ.out ▸ hb5))
  rw [← HQ.out] at hblk ⊢
  have HP5 := Lib.hid hblk
  have HQ1 := Lib.hid hq1
  have HZ5 := Lib.hid (show q < w5.heap.size from hblk.lt)
  have y0 := hblk.cell 0
  have z0 := hblk.frozen 0
  simp only [List.getElem?_toArray, List.getElem?_cons_zero] at y0
  clear hblk hbl hoth hsize hb5 hq1
  go_wp2_with fail
  refine (HER.out _ _ HRS5.out).mono ?_
  rintro e w' ⟨rfl, rfl⟩
  go_wp2_with fail
  refine (HCL.out _ HRS5.out).mono ?_
  rintro e w6 ⟨c, rfl, hl, hrs, honly⟩
  obtain ⟨x0, x1, x2, rfl, o0, o1, o2⟩ := hl
  have HP6 := Lib.hid (HP5.out.only honly (by have := HB.out; have := HQ1.out; omega))
  have HG6 := Lib.hid (HG5.out.only honly (by have := HB.out; omega))
  have HO6 := Lib.hid (HO5.out.trans honly)
  have HRS6 := Lib.hid hrs
  have HONE := Lib.hid (show (#[x0, x1, x2] : Array Value).all (·.oneCell') = true by
    rw [← Array.all_toList]; simp only [List.all_cons, List.all_nil, o0.oneCell, o1.oneCell, o2.oneCell]; rfl)
  have I0 := Lib.hid (o0.mono (B' := g + 1) (by have := HZ5.out; have := HQ1.out; omega))
  have I1 := Lib.hid (o1.mono (B' := g + 1) (by have := HZ5.out; have := HQ1.out; omega))
  have I2 := Lib.hid (o2.mono (B' := g + 1) (by have := HZ5.out; have := HQ1.out; omega))
  have HZ6 := Lib.hid (show q < w6.heap.size from HP6.out.lt)
  clear honly hrs o0 o1 o2
  obtain ⟨wr, hwr⟩ : ∃ X, X = w6.setCells q 7 [x0, x1, x2] := ⟨_, rfl⟩
  have HWR := Lib.hid hwr
  have hon : Only q w6 wr := by rw [hwr]; exact grownBy_setCells _ _
  have HPF := Lib.hid (show Blk wr q 54 #[.int .u8 2, .slice none 0 0, .slice none 0 0, .slice none 0 0, .int .u8 0, .slice none 0 0, .slice none 0 0, x0, x1, x2] by
    rw [hwr]
    exact (((HP6.out.set 7 (x0)).set 8 (x1)).set 9 (x2)))
  have HGF := Lib.hid (HG6.out.only hon (by have := HQ1.out; omega))
  have HRF := Lib.hid (HRS6.out.only hon (by have := HB.out; have := HQ1.out; omega) (Nat.le_of_lt HZ6.out))
  have HOF := Lib.hid (HO6.out.then (hon.below (C := w.heap.size) (by have := HQ1.out; have := HG.out; omega) HO6.out.size))
  replace I0 := Lib.hid (I0.out.other HP6.out (by decide) (fun i hi hne => hon.block i hi (fun e => hne (by simpa using e))))
  replace I1 := Lib.hid (I1.out.other HP6.out (by decide) (fun i hi hne => hon.block i hi (fun e => hne (by simpa using e))))
  replace I2 := Lib.hid (I2.out.other HP6.out (by decide) (fun i hi hne => hon.block i hi (fun e => hne (by simpa using e))))
  clear hon hwr
  go_wp2_with (first
    | (refine wpList_store_mid rfl 52 (.tmp 36) (.tmp 34) rfl q 7 #[x0, x1, x2] rfl rfl (HP6.out.there 7 3 (by simp)) (by kernel_rfl) HONE.out ?_; rw [← HWR.out])
    | (refine wpList_load_at rfl 54 (.tmp 4) rfl q rfl 54 #[.int .u8 2, .slice none 0 0, .slice none 0 0, .slice none 0 0, .int .u8 0, .slice none 0 0, .slice none 0 0, x0, x1, x2] (0, 0) _ HPF.out Tryz.underlying54 rfl (by kernel_rfl) ?_)
    | (refine wpList_store_blk rfl 54 (.tmp 2) (.tmp 41) rfl w.heap.size #[.int .u8 2, .slice none 0 0, .slice none 0 0, .slice none 0 0, .int .u8 0, .slice none 0 0, .slice none 0 0, x0, x1, x2] rfl rfl 54 #[.int .u8 0, .slice none 0 0, .slice none 0 0, .slice none 0 0, .int .u8 0, .slice none 0 0, .slice none 0 0, .slice none 0 0, .slice none 0 0, .slice none 0 0] (HG.out ▸ HGF.out) (by kernel_rfl) rfl (by simp only [List.all_cons, List.all_nil, I0.out.oneCell, I1.out.oneCell, I2.out.oneCell]; rfl) ?_))
  rintro w11 hblk hbl hoth hsize
  rw [← HG.out] at hblk hbl hoth
  have HP11 := Lib.hid hblk
  have hb11 := hbl g (Nat.le_refl _)
  have HRS11 := Lib.hid (HRF.out.low hb11 HB.out)
  have HO11 := Lib.hid (only_low HOF.out (show Below w.heap.size wr w11 from HG.out ▸ hb11))
  replace I0 := Lib.hid ((I0.out.other HGF.out (by decide) (fun i _ hi => hoth i hi)).mono (B' := g) (Nat.le_succ _))
  replace I1 := Lib.hid ((I1.out.other HGF.out (by decide) (fun i _ hi => hoth i hi)).mono (B' := g) (Nat.le_succ _))
  replace I2 := Lib.hid ((I2.out.other HGF.out (by decide) (fun i _ hi => hoth i hi)).mono (B' := g) (Nat.le_succ _))
  clear hblk hbl hoth hsize hb11
  go_wp2_with fail
  refine bodyPost_ret (v := .tuple #[.agg #[.int .u8 2, .slice none 0 0, .slice none 0 0, .slice none 0 0, .int .u8 0, .slice none 0 0, .slice none 0 0, x0, x1, x2], .int .u8 0]) (results_row2 Tryz.results144 _ _ w.heap.size _ _ _ rfl (HG.out ▸ HP11.out) Tryz.underlying54 rfl (by kernel_rfl)) rfl ?_
  rw [HS.out]
  refine ⟨_, rfl, ?_, HRS11.out, HO11.out⟩
  rw [← HG.out]
  exact ⟨_, _, _, _, _, _, _, _, rfl, Own.nil _ _ _, Own.nil _ _ _, Own.nil _ _ _, Own.nil _ _ _, Own.nil _ _ _, I0.out, I1.out, I2.out⟩
theorem take_on (d : NodeD) (B : Nat) (R : List Nat) (w : World) (hr : rightB d = true) (hn : d.par.late.length ≤ 200) (hlt : ∀ x ∈ nodeB d ++ R, x < 256) (hR : R.length < 900000000) (h : RS w B (nodeB d ++ R) 0) :
    Calls Tryz.prog 144 #[.pointer (some ⟨B, 0, none⟩)] w (TkNodeP B w d R) := by
  obtain ⟨k, l, p⟩ := d
  unfold rightB at hr
  unfold nodeB at h hlt
  simp only at hr h hlt hn
  by_cases h0 : k = 0
  · subst h0
    simp only [if_true] at hr
    rw [Bool.and_eq_true] at hr
    have h1 := of_decide_eq_true hr.1
    have h2 := of_decide_eq_true hr.2
    simp only [if_neg (show ¬ (0 = 1) by omega), if_neg (show ¬ (0 = 2) by omega), List.cons_append, List.nil_append] at h hlt
    obtain ⟨a, b, c, s, e, f⟩ := l
    obtain ⟨x, y, z⟩ := p
    simp only at h1 h2
    have e1 : a = [] := List.eq_nil_of_length_eq_zero (by omega)
    have e2 : b = [] := List.eq_nil_of_length_eq_zero (by omega)
    have e3 : c = [] := List.eq_nil_of_length_eq_zero (by omega)
    have e4 : e = [] := List.eq_nil_of_length_eq_zero (by omega)
    have e5 : f = [] := List.eq_nil_of_length_eq_zero (by omega)
    have e6 : x = [] := List.eq_nil_of_length_eq_zero (by omega)
    have e7 : y = [] := List.eq_nil_of_length_eq_zero (by omega)
    have e8 : z = [] := List.eq_nil_of_length_eq_zero (by omega)
    have e9 : s = 0 := by omega
    subst e1 e2 e3 e4 e5 e6 e7 e8 e9
    exact takeNode_0 B R R w h hlt rfl
  · by_cases h1 : k = 1
    · subst h1
      simp only [if_true, if_false, Nat.reduceEqDiff] at hr
      rw [Bool.and_eq_true] at hr
      have h2 := of_decide_eq_true hr.2
      simp only [if_true, List.cons_append] at h hlt
      obtain ⟨x, y, z⟩ := p
      simp only at h2
      have e6 : x = [] := List.eq_nil_of_length_eq_zero (by omega)
      have e7 : y = [] := List.eq_nil_of_length_eq_zero (by omega)
      have e8 : z = [] := List.eq_nil_of_length_eq_zero (by omega)
      subst e6 e7 e8
      exact takeNode_1 l B _ R w h hlt (fun W hW => takeLeaf_on l B R W hr.1 (fun x hx => hlt x (List.mem_cons_of_mem _ hx)) hR hW)
    · by_cases h2 : k = 2
      · subst h2
        simp only [if_true, if_false, Nat.reduceEqDiff] at hr
        rw [Bool.and_eq_true] at hr
        have h3 := of_decide_eq_true hr.1
        simp only [if_true, if_neg (show ¬ (2 = 1) by omega), List.cons_append] at h hlt
        obtain ⟨a, b, c, s, e, f⟩ := l
        simp only at h3
        have e1 : a = [] := List.eq_nil_of_length_eq_zero (by omega)
        have e2 : b = [] := List.eq_nil_of_length_eq_zero (by omega)
        have e3 : c = [] := List.eq_nil_of_length_eq_zero (by omega)
        have e4 : e = [] := List.eq_nil_of_length_eq_zero (by omega)
        have e5 : f = [] := List.eq_nil_of_length_eq_zero (by omega)
        have e9 : s = 0 := by omega
        subst e1 e2 e3 e4 e5 e9
        exact takeNode_2 p B _ R w h hlt (fun W hW => takeParent_on p B R W hr.2 hn (fun x hx => hlt x (List.mem_cons_of_mem _ hx)) hR hW)
      · simp [h0, h1, h2] at hr
end Go.Proofs.YtngealmhgkoaiaaGreat
/- Walk: tree.read on the bytes of right nodes gives those nodes. -/
namespace Go.Proofs.YtngealmhgkoaiaaGreat
open Go.RowKit WireM
set_option linter.unusedVariables false
theorem OwnK.only {w w' : World} {B C : Nat} {e : TypeId} {k n : Nat} {v : Value} {xs : List Value} (h : OwnK w B e k v n xs) (hb : Only C w w') (hC : C < B) : OwnK w' B e k v n xs := by
  obtain ⟨h1, h2 | ⟨g, cp, cur, rfl, hB, hh, rest⟩⟩ := h
  · exact ⟨h1, .inl h2⟩
  · refine ⟨h1, .inr ⟨g, cp, cur, rfl, hB, ?_, rest⟩⟩
    have hl : g < w.heap.size := by
      rcases Nat.lt_or_ge g w.heap.size with h | h
      · exact h
      · rw [Array.getElem?_eq_none h] at hh; cases hh
    rw [hb.block g hl (fun e => by simp at e; omega)]
    exact hh
theorem NodeO.only {w w' : World} {B C : Nat} {d : NodeD} {c : Array Value} (h : NodeO w B d c) (hb : Only C w w') (hC : C < B) : NodeO w' B d c := by
  obtain ⟨x0, x1, x2, x3, x4, u0, u1, u2, rfl, h0, h1, h2, h3, h4, h5, h6, h7⟩ := h
  exact ⟨x0, x1, x2, x3, x4, u0, u1, u2, rfl, h0.only hb hC, h1.only hb hC, h2.only hb hC, h3.only hb hC, h4.only hb hC, h5.only hb hC, h6.only hb hC, h7.only hb hC⟩
/-- a node behind others; the reader's block alone was written meanwhile -/
theorem NodesO.snocO {w : World} {B B' C : Nat} {xs ys : List Value} {t : List NodeD} {i : Nat} {W : World} (h : NodesO W B xs t i) (hW : Only C W w) (hC : C < B) (hn : NodeO w B' (nd t i) ys.toArray) (hB : B ≤ B') (hB' : W.heap.size ≤ B') (hy : ys.length = 10) : NodesO w B (xs ++ ys) t (i + 1) := by
  refine ⟨by rw [List.length_append, h.1, hy]; omega, fun j hj => ?_, fun j k hjk hk => ?_⟩
  · by_cases e : j = i
    · subst e; rw [cellsAt_new h.1 hy]; exact hn.mono hB
    · rw [cellsAt_old h.1 (by omega)]; exact (h.2.1 j (by omega)).only hW hC
  · by_cases e : k = i
    · subst e
      intro g hg hg2
      have l1 := ((h.2.1 j hjk).late).blockLt (g := g) (by
        have : lateV (xs ++ ys) j = lateV xs j := by unfold lateV; rw [cellsAt_old h.1 hjk]
        rw [this] at hg; simpa [lateV] using hg)
      have l2 := (hn.late).blockLt (g := g) (by
        have : lateV (xs ++ ys) k = ys.getD 9 undef := by unfold lateV; rw [cellsAt_new h.1 hy]
        rw [this] at hg2; simpa using hg2)
      omega
    · have := h.2.2 j k hjk (by omega)
      unfold lateV at this ⊢
      rw [cellsAt_old h.1 (by omega), cellsAt_old h.1 (by omega)]; exact this
/-- the bytes of nodes, one behind the other -/
def catN (t : List NodeD) : List Nat := (t.map nodeB).flatten
theorem catN_drop {t : List NodeD} {i : Nat} (h : i < t.length) : catN (t.drop i) = nodeB (nd t i) ++ catN (t.drop (i + 1)) := by
  rw [List.drop_eq_getElem_cons h]
  simp only [catN, List.map_cons, List.flatten_cons]
  rw [nd, List.getD_eq_getElem?_getD, List.getElem?_eq_getElem h]
  rfl
theorem nodeB_pos (d : NodeD) : 0 < (nodeB d).length := by
  unfold nodeB; split
  · simp
  · split <;> simp
theorem catN_len : ∀ (t : List NodeD), (∀ d ∈ t, smallB d = true) → (catN t).length ≤ 1100 * t.length
  | [], _ => by simp [catN]
  | d :: t, h => by
    have h1 := catN_len t fun x hx => h x (List.mem_cons_of_mem _ hx)
    have h2 := nodeB_len (h d (by simp))
    simp only [catN, List.map_cons, List.flatten_cons, List.length_append, List.length_cons] at h1 ⊢
    omega
theorem catN_lt (t : List NodeD) (hs : ∀ d ∈ t, smallB d = true) (hok : ∀ d ∈ t, NodeOk d) : ∀ x ∈ catN t, x < 256 := by
  intro x hx
  simp only [catN, List.mem_flatten, List.mem_map] at hx
  obtain ⟨l, ⟨d, hd, rfl⟩, hx⟩ := hx
  exact nodeB_lt (hok d hd) (hs d hd) x hx
theorem nd_mem {t : List NodeD} {i : Nat} (h : i < t.length) : nd t i ∈ t := by
  rw [nd, List.getD_eq_getElem?_getD, List.getElem?_eq_getElem h]
  exact List.getElem_mem h
set_option maxRecDepth 100000 in
set_option maxHeartbeats 8000000 in
theorem tread_on (t : List NodeD) (v : Value) (w : World) (h : Rd w v (bvs (catN t))) (hr : ∀ d ∈ t, rightB d = true) (hs : ∀ d ∈ t, smallB d = true) (hok : ∀ d ∈ t, NodeOk d) (hlen : t.length ≤ 63) :
    Calls Tryz.prog 78 #[v] w fun e w' => ∃ v', e = .returned (.tuple #[v', .int .u8 0]) ∧ TreeO w' w.heap.size v' t ∧ Below w.heap.size w w' := by
  obtain ⟨g, hg⟩ : ∃ g, g = w.heap.size := ⟨_, rfl⟩
  have NR := newReader_any v (catN t) w h
  rw [← hg] at NR
  have SUB : ∀ i, ∀ d ∈ t.drop i, d ∈ t := fun i d hd => List.mem_of_mem_drop hd
  have TK := fun (W : World) (i : Nat) (hi : i < t.length) (hw : RS W g (catN (t.drop i)) 0) => (show Calls Tryz.prog 144 #[.pointer (some ⟨g, 0, none⟩)] W (TkNodeP g W (nd t i) (catN (t.drop (i + 1)))) from by
    have hl := catN_len (t.drop (i + 1)) fun d hd => hs d (SUB _ d hd)
    have hd := nd_mem hi
    rw [catN_drop hi] at hw
    refine take_on (nd t i) g _ W (hr _ hd) (by have := of_decide_eq_true (hs _ hd); omega) ?_ (by rw [List.length_drop] at hl; omega) hw
    intro x hx
    rw [← catN_drop hi] at hx
    exact catN_lt _ (fun d hd => hs d (SUB _ d hd)) (fun d hd => hok d (SUB _ d hd)) x hx)
  have LF := fun (W : World) (i : Nat) (hw : RS W g (catN (t.drop i)) 0) => left_any g _ 0 W hw
  have POS := fun (i : Nat) (hi : i < t.length) => (show 0 < (catN (t.drop i)).length by rw [catN_drop hi, List.length_append]; have := nodeB_pos (nd t i); omega)
  have LEN := fun (i : Nat) => (show (catN (t.drop i)).length ≤ 100000 by have hl := catN_len (t.drop i) (fun d hd => hs d (SUB _ d hd)); rw [List.length_drop] at hl; omega)
  have ZERO : (catN (t.drop t.length)).length = 0 := by rw [List.drop_length]; rfl
  have FIN := fun (W : World) (v : Value) (xs : List Value) (h1 : OwnK W (g + 1) 54 10 v t.length xs) (h2 : NodesO W (g + 1) xs t t.length) => (show TreeO W g v t from ⟨xs, h1.mono (by omega), h2.1, fun j hj => (h2.2.1 j hj).mono (by omega), h2.2.2⟩)
  obtain ⟨a, c, rfl, -⟩ := id h
  rw [bvs_len] at NR ⊢
  obtain ⟨n, hn⟩ : ∃ n, n = t.length := ⟨_, rfl⟩
  rw [← hn] at TK POS FIN hlen ZERO
  obtain ⟨C, hC⟩ : ∃ C : Nat → List Nat, C = fun i => catN (t.drop i) := ⟨_, rfl⟩
  have hC' : ∀ i, catN (t.drop i) = C i := fun i => by rw [hC]
  simp only [hC'] at TK LF POS LEN ZERO
  have h0 : catN t = C 0 := by rw [← hC']; rfl
  rw [h0] at NR ⊢
  obtain ⟨l0, hl0⟩ : ∃ l, l = (C 0).length := ⟨_, rfl⟩
  rw [← hl0] at NR ⊢
  have HNR := Lib.hid NR
  have HTK := Lib.hid TK
  have HLF := Lib.hid LF
  have HPOS := Lib.hid POS
  have HLEN := Lib.hid LEN
  have HZ := Lib.hid ZERO
  have HFI := Lib.hid FIN
  have HG := Lib.hid hg
  clear NR TK LF POS LEN ZERO FIN SUB h hr hs hok hn hC hC' h0 hl0 hg
  go_enter Tryz.func78, Tryz.ntmps78
  go_wp2_with fail
  refine HNR.out.mono ?_
  rintro e w0 ⟨rfl, hrs, hb⟩
  have HR0 := Lib.hid hrs
  have HB0 := Lib.hid hb
  clear hrs hb
  go_wp2_with fail
  go_loopg [5] n (fun q ov wr => ∃ i : Nat, i + q = n ∧ RS wr g (C i) 0 ∧ Below w.heap.size w wr ∧ ∃ xs, OwnK wr (g + 1) 54 10 ov i xs ∧ NodesO wr (g + 1) xs t i)
  case atStart => exact ⟨0, by omega, HR0.out, (by have := HB0.out; rwa [HG.out] at this), [], OwnK.nil _ _ _ _, rfl, fun j hj => by omega, fun j k _ hk => by omega⟩
  case round =>
    obtain ⟨i, hi, hrs, hb, xs, hown, hno⟩ := hrel
    have HI := Lib.hid hi
    have HB := Lib.hid hb
    have HO := Lib.hid hown
    have HN := Lib.hid hno
    have HRS := Lib.hid hrs
    clear hb hown hno hrs
    by_cases hlt : i < n
    · have hpos := HPOS.out i hlt
      have hlen := HLEN.out i
      have HCT := Lib.hid (HTK.out · i hlt)
      have HCL := Lib.hid (HLF.out _ _ HRS.out)
      obtain ⟨l, hl⟩ : ∃ l, l = (C i).length := ⟨_, rfl⟩
      rw [← hl] at hpos hlen HCL
      have hpI : (0 : Int) < (l : Int) := by omega
      clear hl hi
      go_wp2_with fail
      refine HCL.out.mono ?_
      rintro e w1 ⟨rfl, rfl⟩
      go_wp2_with fail
      refine (HCT.out _ HRS.out).mono ?_
      rintro e w2 ⟨c', rfl, hno2, hrs2, honly⟩
      have HR2 := Lib.hid hrs2
      have hc10 : c'.toList.length = 10 := by obtain ⟨x0, x1, x2, x3, x4, u0, u1, u2, rfl, _⟩ := hno2; rfl
      have hsz := HB.out.size
      have hgs : g = w.heap.size := HG.out
      have hgl := HRS.out.lt
      have HN2 := Lib.hid (HN.out.snocO honly (Nat.lt_succ_self _) (by simpa using hno2) (by omega) (Nat.le_refl _) hc10)
      have hone : ∀ u ∈ c'.toList, u.oneCell' = true := List.all_eq_true.1 hno2.ones.2
      have HONE := Lib.hid hone
      have HO2 := Lib.hid (HO.out.only honly (Nat.lt_succ_self _))
      have HB2 := Lib.hid (HB.out.trans (honly.below (C := w.heap.size) (by omega) (by omega)))
      have HZ2 := Lib.hid (show g < w2.heap.size from hrs2.lt)
      obtain ⟨kk, x0, x1, x2, ss, x3, x4, u0, u1, u2, rfl⟩ : ∃ kk x0 x1 x2 ss x3 x4 u0 u1 u2, c' = #[kk, x0, x1, x2, ss, x3, x4, u0, u1, u2] := by
        obtain ⟨x0, x1, x2, x3, x4, u0, u1, u2, e, _⟩ := hno2; exact ⟨_, _, _, _, _, _, _, _, _, _, e⟩
      clear hno2 hrs2 honly hc10 hone hsz hgs hgl
      obtain ⟨q, hq⟩ : ∃ q, q = w2.heap.size := ⟨_, rfl⟩
      have HQ := Lib.hid hq
      have HQK := Lib.hid (show Blk (w2.alloc (.cells #[.int .u8 0, .slice none 0 0, .slice none 0 0, .slice none 0 0, .int .u8 0, .slice none 0 0, .slice none 0 0, .slice none 0 0, .slice none 0 0, .slice none 0 0] 54)) q 54 #[.int .u8 0, .slice none 0 0, .slice none 0 0, .slice none 0 0, .int .u8 0, .slice none 0 0, .slice none 0 0, .slice none 0 0, .slice none 0 0, .slice none 0 0] by rw [hq]; exact Blk.new _ _ _)
      have HONEA := Lib.hid (show #[kk, x0, x1, x2, ss, x3, x4, u0, u1, u2].toList.all (·.oneCell') = true from List.all_eq_true.2 HONE.out)
      clear hq
      go_wp2_with (refine wpList_store_blk rfl 54 (.tmp 6) (.tmp 16) rfl w2.heap.size #[kk, x0, x1, x2, ss, x3, x4, u0, u1, u2] rfl rfl 54 #[.int .u8 0, .slice none 0 0, .slice none 0 0, .slice none 0 0, .int .u8 0, .slice none 0 0, .slice none 0 0, .slice none 0 0, .slice none 0 0, .slice none 0 0] (HQ.out ▸ HQK.out) (by kernel_rfl) rfl HONEA.out ?_)
      rintro w5 hblk hbl hoth hsize
      have hb5 : Below q w2 w5 := by
        rw [HQ.out]
        exact ((Below.refl _ _).alloc (Nat.le_refl _) _).trans (hbl _ (Nat.le_refl _))
      rw [← HQ.out] at hblk ⊢
      have HP5 := Lib.hid hblk
      have HO5 := Lib.hid (HO2.out.below hb5 (by rw [HQ.out]; exact Nat.le_refl _))
      have HN5 := Lib.hid (HN2.out.below hb5 (by rw [HQ.out]; exact Nat.le_refl _))
      have HR5 := Lib.hid (HR2.out.below (HQ.out ▸ hb5))
      have HB5 := Lib.hid (HB2.out.trans (hb5.mono (by rw [HQ.out]; exact HB2.out.size)))
      have HZ5 := Lib.hid (show g + 1 ≤ w5.heap.size by have := hblk.lt; have := HZ2.out; have := HQ.out; omega)
      clear hblk hbl hoth hsize hb5
      go_wp2_with (first
        | (refine wpList_load_at rfl 54 (.tmp 6) rfl q rfl 54 #[kk, x0, x1, x2, ss, x3, x4, u0, u1, u2] (0, 0) _ HP5.out Tryz.underlying54 rfl (by kernel_rfl) ?_)
        | (at_builtin; refine wpList_pushG rfl (.tmp 21) (.tmp 23) 22 rfl (g + 1) 54 _ 10 208 treesE _ i _ rfl (HO5.out.alloc _) w5.heap.size [kk, x0, x1, x2, ss, x3, x4, u0, u1, u2] rfl rfl ?c1 HONE.out ?c2 ?c3 ?_))
      case c1 => exact cells_new (cs := [kk, x0, x1, x2, ss, x3, x4, u0, u1, u2]) rfl
      case c2 => omega
      case c3 => have := HZ5.out; simp; omega
      rintro v' w6 hown3 hg3 hb3
      have HO6 := Lib.hid hown3
      have hba := (Below.refl w5.heap.size w5).alloc (Nat.le_refl _) (.cells #[kk, x0, x1, x2, ss, x3, x4, u0, u1, u2] 54)
      have HN6 := Lib.hid ((HN5.out.below hba (Nat.le_refl _)).grown (HO5.out.alloc _) hg3)
      have HB6 := Lib.hid ((HB5.out.trans (hba.mono HB5.out.size)).trans (hb3.mono (by have := HG.out; omega)))
      have HR6 := Lib.hid ((HR5.out.below hba).low hb3 (Nat.lt_succ_self g))
      clear hown3 hg3 hb3 hba
      go_wp2_with fail
      go_roundg (gk - 1)
      case measure => have := HI.out; omega
      case rel => exact ⟨i + 1, by have := HI.out; omega, HR6.out, HB6.out, _, HO6.out, HN6.out⟩
    · obtain rfl : i = n := by omega
      have hz := HZ.out
      have HCL := Lib.hid (HLF.out _ _ HRS.out)
      rw [hz] at HCL
      have HF := Lib.hid (HFI.out wr _ xs HO.out HN.out)
      clear hz hi hlt
      go_wp2_with fail
      refine HCL.out.mono ?_
      rintro e w1 ⟨rfl, rfl⟩
      go_wp2_with fail
      go_ret2
      exact ⟨_, rfl, by rw [← HG.out]; exact HF.out, HB.out⟩
end Go.Proofs.YtngealmhgkoaiaaGreat
/- Walks: tree.Bytes of a right tree; and the document's. -/
namespace Go.Proofs.YtngealmhgkoaiaaGreat
open Go.RowKit WireM
set_option linter.unusedVariables false
theorem wrapT {x y : Int} (e : x = y) (h1 : -9223372036854775808 ≤ y) (h2 : y ≤ 9223372036854775807) : wrap64 x = y := by
  subst e; unfold wrap64; omega
/-- behind the last node of the first k that isn't blank -/
def endU (t : List NodeD) : Nat → Nat
  | 0 => 0
  | k + 1 => if (nd t k).kind = 0 then endU t k else k + 1
theorem endU_le (t : List NodeD) : ∀ k, endU t k ≤ k
  | 0 => Nat.le_refl _
  | k + 1 => by unfold endU; have := endU_le t k; split <;> omega
theorem endU_pos {t : List NodeD} : ∀ {k i : Nat}, i < k → (nd t i).kind ≠ 0 → i < endU t k
  | k + 1, i, h, hk => by
    unfold endU
    split
    · rename_i h0
      refine endU_pos ?_ hk
      rcases Nat.lt_or_ge i k with h1 | h1
      · exact h1
      · obtain rfl : i = k := by omega
        exact absurd h0 hk
    · omega
theorem endU_last {t : List NodeD} : ∀ {k e : Nat}, endU t k = e + 1 → (nd t e).kind ≠ 0
  | 0, e, h => by cases h
  | k + 1, e, h => by
    unfold endU at h
    split at h
    · exact endU_last h
    · rename_i h0
      simp only [Nat.add_right_cancel_iff] at h
      rw [← h]; exact h0
theorem endU_blank {t : List NodeD} {k i : Nat} (h : endU t k ≤ i) (hi : i < k) : (nd t i).kind = 0 := by
  rcases Nat.eq_zero_or_pos (nd t i).kind with h0 | h0
  · exact h0
  · have := endU_pos hi (Nat.pos_iff_ne_zero.1 h0); omega
theorem endU_zero {t : List NodeD} {k : Nat} (h : (nd t k).kind = 0) : endU t (k + 1) = endU t k := by rw [endU, if_pos h]
theorem endU_on {t : List NodeD} {k : Nat} (h : (nd t k).kind ≠ 0) : endU t (k + 1) = k + 1 := by rw [endU, if_neg h]
/-- the last index of a node that isn't blank, or 0: as the document looks for it -/
def lastU (t : List NodeD) : Nat → Nat
  | 0 => 0
  | k + 1 => if (nd t k).kind = 0 then lastU t k else k
theorem lastU_end (t : List NodeD) : ∀ k, lastU t k = endU t k - 1
  | 0 => rfl
  | k + 1 => by unfold lastU endU; split; · exact lastU_end t k
                · rfl
theorem someK_ex {t : List NodeD} (h : someK t = true) : ∃ i, i < t.length ∧ (nd t i).kind = 1 := by
  unfold someK at h
  rw [List.any_eq_true] at h
  obtain ⟨d, hd, hk⟩ := h
  obtain ⟨i, hi, rfl⟩ := List.getElem_of_mem hd
  refine ⟨i, hi, ?_⟩
  rw [nd, List.getD_eq_getElem?_getD, List.getElem?_eq_getElem hi]
  simpa using hk
theorem right_end {t : List NodeD} (hr : rightT t = true) : 0 < endU t t.length := by
  rw [rightT, Bool.and_eq_true, Bool.and_eq_true, Bool.and_eq_true] at hr
  have hs := hr.2.2.1
  unfold someB at hs
  split at hs
  · obtain ⟨i, hi, hk⟩ := someK_ex hs
    exact Nat.lt_of_le_of_lt (Nat.zero_le _) (endU_pos hi (by omega))
  · obtain ⟨i, hi, hk⟩ := someK_ex hs
    rw [List.length_drop] at hi
    have e : nd (t.drop (leavesN t.length)) i = nd t (leavesN t.length + i) := by
      simp [nd, List.getD_eq_getElem?_getD, List.getElem?_drop]
    rw [e] at hk
    exact Nat.lt_of_le_of_lt (Nat.zero_le _) (endU_pos (show leavesN t.length + i < t.length by omega) (by omega))
theorem catN_snoc {t : List NodeD} {i : Nat} (h : i < t.length) : catN (t.take (i + 1)) = catN (t.take i) ++ nodeB (nd t i) := by
  rw [List.take_succ_eq_append_getElem h]
  simp only [catN, List.map_append, List.flatten_append, List.map_cons, List.map_nil, List.flatten_cons, List.flatten_nil, List.append_nil]
  rw [nd, List.getD_eq_getElem?_getD, List.getElem?_eq_getElem h]
  rfl
theorem right_nd {t : List NodeD} (hr : rightT t = true) {i : Nat} (hi : i < t.length) : rightB (nd t i) = true := by
  rw [rightT, Bool.and_eq_true, Bool.and_eq_true] at hr
  exact (((placedB_iff t).1 hr.2.1) i hi).2
/-- a tree's bytes -/
def bytesT (t : List NodeD) : List Nat := vecB (catN (t.take (endU t t.length)))
theorem med_mem {t : List NodeD} (hs : medT t = true) : ∀ d ∈ t, smallB d = true := by
  rw [medT, Bool.and_eq_true] at hs
  exact List.all_eq_true.1 hs.2
theorem catN_take_len {t : List NodeD} (hs : medT t = true) (i : Nat) : (catN (t.take i)).length ≤ 70000 := by
  have h := catN_len (t.take i) fun d hd => med_mem hs d (List.mem_of_mem_take hd)
  have := medT_len hs
  rw [List.length_take] at h
  omega
set_option maxRecDepth 100000 in
set_option maxHeartbeats 8000000 in
theorem tbytes_yes (v : Value) (t : List NodeD) (w : World) (h : TreeR w v t) (hs : medT t = true) (hok : TreeOk t) (hr : rightT t = true) :
    Calls Tryz.prog 17 #[v] w fun e w' => ∃ v', e = .returned (.tuple #[v', .int .u8 0]) ∧ Own w' w.heap.size 5 v' (bvs (bytesT t)) ∧ Below w.heap.size w w' := by
  have hlen := medT_len hs
  obtain ⟨a, c, rfl, hc, hc2⟩ := h.sl
  have TR := tright_med _ t w h hs hok
  rw [hr] at TR
  have GN := fun (W : World) (hw : Below w.heap.size w W) (i : Nat) (hi : i < t.length) => (h.below hw (Nat.le_refl _)).node hi
  have AT := fun (W : World) (hw : Below w.heap.size w W) (i : Nat) (hi : i < t.length) => (h.below hw (Nat.le_refl _)).at hi
  have NB := fun (i : Nat) (hi : i < t.length) (cs : Array Value) (W : World) (hw : NodeC W (nd t i) cs) => nbytesR_any (nd t i) cs W hw (hok.nd i) (medT_nd hs i) true (right_nd hr hi)
  simp only [if_true] at NB
  have hpos := right_end hr
  have hle := endU_le t t.length
  have CS := fun (i : Nat) (hi : i < t.length) => (show bvs (catN (t.take (i + 1))) = bvs (catN (t.take i)) ++ bvs (nodeB (nd t i)) by rw [catN_snoc hi]; simp [bvs])
  have CL := fun (i : Nat) => catN_take_len hs i
  have NL := fun (i : Nat) => nodeB_len (medT_nd hs i)
  have BL := fun (i : Nat) => (by have := vecB_len (catN (t.take i)) (by have := CL i; omega); have := CL i; omega : (vecB (catN (t.take i))).length ≤ 100000)
  have PV := fun (W : World) (v : Value) (hv : Rd W v (bvs (catN (t.take (endU t t.length))))) => putVec_any (.slice none 0 0) v [] (catN (t.take (endU t t.length))) W (rd_nil W) hv (by simp) (by have := CL (endU t t.length); omega)
  simp only [List.nil_append] at PV
  obtain ⟨R, hR⟩ : ∃ R, R = bytesT t := ⟨_, rfl⟩
  have BLR := BL (endU t t.length)
  change (bytesT t).length ≤ 100000 at BLR
  change ∀ (W : World) (v : Value), Rd W v (bvs (catN (t.take (endU t t.length)))) → Calls Tryz.prog 70 #[.slice none 0 0, v] W fun e w' => ∃ v', e = .returned v' ∧ Own w' W.heap.size 5 v' (bvs (bytesT t)) ∧ Below W.heap.size W w' at PV
  rw [← hR] at BLR PV ⊢
  obtain ⟨E, hE⟩ : ∃ E, E = endU t t.length := ⟨_, rfl⟩
  obtain ⟨n, hn⟩ : ∃ n, n = t.length := ⟨_, rfl⟩
  rw [← hn] at hE GN AT NB CS PV hlen hle hpos hc TR ⊢
  rw [← hE] at PV hpos hle
  have EZ := fun (k : Nat) (hk : E = endU t (k + 1)) (h0 : (nd t k).kind = 0) => (show E = endU t k by rw [hk, endU_zero h0])
  have EP := fun (hk : E = endU t 0) => (show False by have : endU t 0 = 0 := rfl; omega)
  have EN := fun (k : Nat) (hk : E = endU t (k + 1)) (h0 : (nd t k).kind ≠ 0) => (show E = k + 1 by rw [hk, endU_on h0])
  have KB := fun (i : Nat) => (hok.nd i).kind
  obtain ⟨b, off, lb, e1, rfl, hbl, -, -, -⟩ := h.at (i := 0) (show 0 < t.length by omega)
  have CK := fun (j : Nat) (W : World) (hw : Below w.heap.size w W) (hj : j < n) => (show W.cell? ⟨b, off + j * 10, none⟩ = some (.int .u8 ((nd t j).kind : Nat)) from by
    obtain ⟨b', off', lb', e1', e, -, ck, -⟩ := AT W hw j hj
    simp only [Option.some.injEq, Addr.mk.injEq, and_true] at e
    obtain ⟨rfl, rfl⟩ := e
    exact ck)
  have HTR := Lib.hid TR
  have HGN := Lib.hid GN
  have HNB := Lib.hid NB
  have HCS := Lib.hid CS
  have HCL := Lib.hid CL
  have HNL := Lib.hid NL
  have HBLR := Lib.hid BLR
  have HPV := Lib.hid PV
  have HEZ := Lib.hid EZ
  have HEP := Lib.hid EP
  have HEN := Lib.hid EN
  have HCK := Lib.hid CK
  have HKB := Lib.hid KB
  have HE := Lib.hid hE
  clear TR GN AT NB CS CL NL BL BLR PV EZ EP EN CK KB h hs hok hr hn hR hE
  go_enter Tryz.func17, Tryz.ntmps17
  go_wp2_with fail
  refine HTR.out.mono ?_
  rintro e w1 ⟨rfl, hb1⟩
  have HB1 := Lib.hid hb1
  clear hb1
  go_wp2_with fail
  go_loopg [4] (n - 1) (fun q iv wr => ∃ k e : Nat, k = q ∧ e = k + 1 ∧ k < n ∧ iv = .int .i64 (e : Nat) ∧ E = endU t e ∧ wr = w1)
  case atStart =>
    obtain ⟨m, rfl⟩ : ∃ m, n = m + 1 := ⟨n - 1, by omega⟩
    exact ⟨m, m + 1, by omega, rfl, by omega, rfl, HE.out, rfl⟩
  case round =>
    obtain ⟨k, e, hq, hke, hkn, rfl, he, rfl⟩ := hrel
    have ck := HCK.out k wr HB1.out hkn
    have hkb := HKB.out k
    have hw : wrap64 ((e : Int) - 1) = (k : Int) := wrapT (by omega) (by omega) (by omega)
    have hkI : (k : Int) < (n : Int) := by omega
    obtain ⟨kd, hkd⟩ : ∃ x, x = (nd t k).kind := ⟨_, rfl⟩
    rw [← hkd] at ck hkb
    by_cases h0 : kd = 0
    · subst h0
      rw [hke] at he
      have he2 := HEZ.out k he hkd.symm
      have hk0 : 0 < k := by
        rcases Nat.eq_zero_or_pos k with h0 | h0
        · rw [h0] at he2; exact absurd (HEP.out he2) (by simp)
        · exact h0
      clear hkb he hkd
      have HQ := Lib.hid hq
      have HKE := Lib.hid hke
      have HE2 := Lib.hid he2
      clear hq hke he2
      go_wp2_with fail
      go_roundg (gk - 1)
      case measure => have := HQ.out; omega
      case rel => exact ⟨k - 1, k, by have := HQ.out; have := HKE.out; omega, by omega, by omega, by rw [hw], HE2.out, rfl⟩
    · have hne : ((kd : Int) == 0) = false := by rw [beq_eq_false_iff_ne]; omega
      have hne2 : ¬ ((kd : Int) = 0) := by omega
      have hne3 : ¬ (kd = 0) := h0
      rw [hke] at he
      have he2 := HEN.out k he (by rw [← hkd]; exact h0)
      obtain rfl : E = e := by omega
      have hEc : (E : Int) ≤ (c : Int) := by omega
      have hEc2 : E ≤ c := by omega
      rw [show k = E - 1 by omega] at ck
      clear he he2 hq hkd h0 hke hkb hw hkI
      go_wp2_with fail
      go_loopg [5, 29] E (fun q ov iv W => ∃ i : Nat, i + q = E ∧ iv = .int .i64 (i : Nat) ∧ Below w.heap.size w W ∧ Own W w.heap.size 5 ov (bvs (catN (t.take i))))
      case atStart => exact ⟨0, by omega, rfl, HB1.out, Own.nil _ _ _⟩
      case round =>
        obtain ⟨i, hi, rfl, hb, hown⟩ := hrel
        have HI := Lib.hid hi
        have HB := Lib.hid hb
        have HO := Lib.hid hown
        by_cases hltE : i < E
        · have hlt' : decide (i < E) = true := decide_eq_true hltE
          have hlt : i < n := by omega
          obtain ⟨b', off', cs, e0, hbl, hnc, hra⟩ := HGN.out wr HB.out i hlt
          obtain ⟨rfl, rfl⟩ : b = b' ∧ off = off' := by
            simp only [Option.some.injEq, Addr.mk.injEq, and_true] at e0
            exact e0
          obtain ⟨D, hD⟩ : ∃ D, D = nd t i := ⟨_, rfl⟩
          have HND := Lib.hid hnc
          rw [← hD] at hnc
          obtain ⟨a1, c1, a2, c2, a3, c3, a4, c4, a5, c5, b1, e1, b2, e2, b3, e3, hcs, -⟩ := hnc
          obtain ⟨kd, hkd⟩ : ∃ k, k = D.kind := ⟨_, rfl⟩
          obtain ⟨l1, hl1⟩ : ∃ l, l = D.leaf.box.length := ⟨_, rfl⟩
          obtain ⟨l2, hl2⟩ : ∃ l, l = D.leaf.sign.length := ⟨_, rfl⟩
          obtain ⟨l3, hl3⟩ : ∃ l, l = D.leaf.ident.length := ⟨_, rfl⟩
          obtain ⟨l4, hl4⟩ : ∃ l, l = D.leaf.par.length := ⟨_, rfl⟩
          obtain ⟨l5, hl5⟩ : ∃ l, l = D.leaf.sig.length := ⟨_, rfl⟩
          obtain ⟨l6, hl6⟩ : ∃ l, l = D.par.box.length := ⟨_, rfl⟩
          obtain ⟨l7, hl7⟩ : ∃ l, l = D.par.hash.length := ⟨_, rfl⟩
          obtain ⟨l8, hl8⟩ : ∃ l, l = D.par.late.length := ⟨_, rfl⟩
          obtain ⟨s, hsrc⟩ : ∃ s, s = D.leaf.source := ⟨_, rfl⟩
          rw [← hkd, ← hl1, ← hl2, ← hl3, ← hl4, ← hl5, ← hl6, ← hl7, ← hl8, ← hsrc] at hcs
          rw [hcs] at hra HND
          have HRA := Lib.hid hra
          clear hkd hl1 hl2 hl3 hl4 hl5 hl6 hl7 hl8 hsrc hD hcs hra e0
          have HNDA := Lib.hid (HND.out.below ((Below.refl wr.heap.size wr).alloc (Nat.le_refl _) (.cells #[.int .u8 (kd : Nat), .slice a1 l1 c1, .slice a2 l2 c2, .slice a3 l3 c3, .int .u8 (s : Nat), .slice a4 l4 c4, .slice a5 l5 c5, .slice b1 l6 e1, .slice b2 l7 e2, .slice b3 l8 e3] 54)) (Nat.le_refl _))
          have HBA := Lib.hid (HB.out.alloc HB.out.size (.cells #[.int .u8 (kd : Nat), .slice a1 l1 c1, .slice a2 l2 c2, .slice a3 l3 c3, .int .u8 (s : Nat), .slice a4 l4 c4, .slice a5 l5 c5, .slice b1 l6 e1, .slice b2 l7 e2, .slice b3 l8 e3] 54))
          have HCNB := Lib.hid (HNB.out i hlt _ _ HNDA.out)
          have HCSK := Lib.hid (HCS.out i hlt)
          clear hb hown hi
          go_wp2_with (refine wpList_load_mid rfl 54 (.tmp 31) rfl b (off + i * 10) rfl [.int .u8 (kd : Nat), .slice a1 l1 c1, .slice a2 l2 c2, .slice a3 l3 c3, .int .u8 (s : Nat), .slice a4 l4 c4, .slice a5 l5 c5, .slice b1 l6 e1, .slice b2 l7 e2, .slice b3 l8 e3] _ HRA.out Tryz.underlying54 rfl node_info ?_)
          refine HCNB.out.mono ?_
          rintro e w2 ⟨hb2, v2, rfl, hown2⟩
          have hba := (Below.refl wr.heap.size wr).alloc (Nat.le_refl _) (.cells #[.int .u8 (kd : Nat), .slice a1 l1 c1, .slice a2 l2 c2, .slice a3 l3 c3, .int .u8 (s : Nat), .slice a4 l4 c4, .slice a5 l5 c5, .slice b1 l6 e1, .slice b2 l7 e2, .slice b3 l8 e3] 54)
          have HO2 := Lib.hid (HO.out.below (hba.trans (hb2.mono hba.size)) (Nat.le_refl _))
          have HV2 := Lib.hid hown2
          have HB2 := Lib.hid (HBA.out.trans (hb2.mono HBA.out.size))
          clear hown2 hb2 hba
          go_wp2_with (at_builtin; refine wpList_app rfl (.tmp 38) (.tmp 39) 25 rfl w.heap.size 5 _ 1 bytesE _ (bvs (catN (t.take i))) rfl HO2.out _ (bvs (nodeB (nd t i))) rfl HV2.out.rd (bvs_one _) ?c1 ?c2 ?_)
          case c1 => rw [bvs_len, bvs_len]; have := HCL.out i; have := HNL.out i; omega
          case c2 => exact HB2.out.size
          rintro v3 w3 hown3 hg3 hb3
          rw [← HCSK.out] at hown3
          have HO3 := Lib.hid hown3
          have HB3 := Lib.hid (HB2.out.trans hb3)
          clear hown3 hg3 hb3
          go_wp2_with fail
          go_roundg (gk - 1)
          case measure => have := HI.out; omega
          case rel => exact ⟨i + 1, by have := HI.out; omega, by go_num, HB3.out, HO3.out⟩
        · obtain rfl : i = E := by omega
          have hlt' : decide (i < i) = false := decide_eq_false hltE
          clear hltE hi hb hown
          have HCP := Lib.hid (HPV.out _ _ HO.out.rd)
          go_wp2_with fail
          refine HCP.out.mono ?_
          rintro e w2 ⟨v2, rfl, hown2, hb2⟩
          have HB2 := Lib.hid (HB.out.trans (hb2.mono HB.out.size))
          have HV2 := Lib.hid (hown2.mono (B' := w.heap.size) HB.out.size)
          obtain ⟨a9, c9, rfl⟩ := own_len hown2
          obtain ⟨rl, hrl⟩ : ∃ l, l = R.length := ⟨_, rfl⟩
          have hbl2 := HBLR.out
          rw [← hrl] at hbl2 HV2 ⊢
          have hgd : decide ((1048576 : Int) < (rl : Int)) = false := decide_eq_false (by omega)
          have hgd2 : ¬ ((1048576 : Int) < (rl : Int)) := by omega
          have HRL := Lib.hid hrl
          clear hown2 hb2 hrl hbl2
          go_wp2_with fail
          go_ret2
          exact ⟨_, rfl, HV2.out, HB2.out⟩
end Go.Proofs.YtngealmhgkoaiaaGreat
/- Walk: the document's bytes of a right tree. -/
namespace Go.Proofs.YtngealmhgkoaiaaGreat
open Go.RowKit WireM WalkM
set_option linter.unusedVariables false
theorem lastU_zero {t : List NodeD} {k : Nat} (h : (nd t k).kind = 0) : lastU t (k + 1) = lastU t k := by rw [lastU, if_pos h]
theorem lastU_on {t : List NodeD} {k : Nat} (h : (nd t k).kind ≠ 0) : lastU t (k + 1) = k := by rw [lastU, if_neg h]
theorem bytesT_lt {t : List NodeD} (hm : medT t = true) (hok : TreeOk t) : ∀ x ∈ bytesT t, x < 256 := by
  have cl := catN_take_len hm (endU t t.length)
  have mem1 : ∀ d ∈ t.take (endU t t.length), d ∈ t := fun d hd => List.mem_of_mem_take hd
  exact vecB_lt (by omega) (catN_lt (t.take (endU t t.length)) (fun d hd => med_mem hm d (mem1 d hd)) (fun d hd => hok d (mem1 d hd)))
set_option maxRecDepth 100000 in
set_option maxHeartbeats 8000000 in
theorem rtbytes_any (v : Value) (t : List NodeD) (w : World) (h : TreeR w v t) (hs : medT t = true) (hok : TreeOk t) (hr : rightT t = true) :
    Calls Tryz.prog 21 #[v] w fun e w' => ∃ v', e = .returned v' ∧ Own w' w.heap.size 5 v' (bvs (bytesT t)) ∧ Below w.heap.size w w' := by
  have hlen := medT_len hs
  obtain ⟨a, c, rfl, hc, hc2⟩ := h.sl
  have GN := fun (W : World) (hw : Below w.heap.size w W) (i : Nat) (hi : i < t.length) => (h.below hw (Nat.le_refl _)).node hi
  have AT := fun (W : World) (hw : Below w.heap.size w W) (i : Nat) (hi : i < t.length) => (h.below hw (Nat.le_refl _)).at hi
  have NB := fun (i : Nat) (hi : i < t.length) (cs : Array Value) (W : World) (hw : NodeC W (nd t i) cs) => rbytes_any (nd t i) cs W hw (hok.nd i) (medT_nd hs i) (fun h2 => (lateB_pw.1 (right_late (right_nd hr hi) )).2)
  have hpos := right_end hr
  have hle := endU_le t t.length
  have CS := fun (i : Nat) (hi : i < t.length) => (show bvs (catN (t.take (i + 1))) = bvs (catN (t.take i)) ++ bvs (nodeB (nd t i)) by rw [catN_snoc hi]; simp [bvs])
  have CL := fun (i : Nat) => catN_take_len hs i
  have NL := fun (i : Nat) => nodeB_len (medT_nd hs i)
  have PV := fun (W : World) (v : Value) (hv : Rd W v (bvs (catN (t.take (endU t t.length))))) => (show Calls Tryz.prog 80 #[v] W fun e w' => ∃ v', e = .returned v' ∧ Own w' W.heap.size 5 v' (bvs (bytesT t)) ∧ Below W.heap.size W w' from rvec_any v (catN (t.take (endU t t.length))) W hv (by have := CL (endU t t.length); omega))
  have LU := lastU_end t t.length
  obtain ⟨R, hR⟩ : ∃ R, R = bytesT t := ⟨_, rfl⟩
  rw [← hR] at PV ⊢
  obtain ⟨E, hE⟩ : ∃ E, E = endU t t.length := ⟨_, rfl⟩
  obtain ⟨n, hn⟩ : ∃ n, n = t.length := ⟨_, rfl⟩
  rw [← hn] at hE GN AT NB CS PV hlen hle hpos hc LU ⊢
  rw [← hE] at PV hpos hle LU
  have KB := fun (i : Nat) => (hok.nd i).kind
  obtain ⟨b, off, lb, ee1, rfl, hbl, -, -, -⟩ := h.at (i := 0) (show 0 < t.length by omega)
  have CK := fun (j : Nat) (W : World) (hw : Below w.heap.size w W) (hj : j < n) => (show W.cell? ⟨b, off + j * 10, none⟩ = some (.int .u8 ((nd t j).kind : Nat)) from by
    obtain ⟨b', off', lb', e1', e, -, ck, -⟩ := AT W hw j hj
    simp only [Option.some.injEq, Addr.mk.injEq, and_true] at e
    obtain ⟨rfl, rfl⟩ := e
    exact ck)
  have LZ := fun (k : Nat) (h0 : (nd t k).kind = 0) => lastU_zero (t := t) (k := k) h0
  have LO := fun (k : Nat) (h0 : (nd t k).kind ≠ 0) => lastU_on (t := t) (k := k) h0
  have L0 : lastU t 0 = 0 := rfl
  obtain ⟨LL, hLL⟩ : ∃ L, L = lastU t := ⟨_, rfl⟩
  rw [← hLL] at LU LZ LO L0
  have HGN := Lib.hid GN
  have HNB := Lib.hid NB
  have HCS := Lib.hid CS
  have HCL := Lib.hid CL
  have HNL := Lib.hid NL
  have HPV := Lib.hid PV
  have HCK := Lib.hid CK
  have HKB := Lib.hid KB
  have HLZ := Lib.hid LZ
  have HLO := Lib.hid LO
  have HLU := Lib.hid LU
  have HL0 := Lib.hid L0
  clear GN AT NB CS CL NL PV CK KB LZ LO LU L0 h hs hok hr hn hR hE hLL
  go_enter Tryz.func21, Tryz.ntmps21
  go_wp2_with fail
  go_loopg [3, 4] n (fun q lv iv wr => ∃ i l : Nat, i + q = n ∧ iv = .int .i64 (i : Nat) ∧ lv = .int .i64 (l : Nat) ∧ l = LL i ∧ wr = w)
  case atStart => exact ⟨0, 0, by omega, rfl, rfl, HL0.out.symm, rfl⟩
  case round =>
    obtain ⟨i, l, hi, rfl, rfl, hl, rfl⟩ := hrel
    have HI := Lib.hid hi
    have HL := Lib.hid hl
    clear hl
    by_cases hlt : i < n
    · have hltI : (i : Int) < (n : Int) := by omega
      have hltb : decide (i < n) = true := decide_eq_true hlt
      have ck := HCK.out i wr (Below.refl _ _) hlt
      have hkb := HKB.out i
      obtain ⟨kd, hkd⟩ : ∃ x, x = (nd t i).kind := ⟨_, rfl⟩
      rw [← hkd] at ck hkb
      have HKD := Lib.hid hkd
      clear hi hkd
      by_cases h0 : kd = 0
      · subst h0
        have h1 := HLZ.out i HKD.out.symm
        have H1 := Lib.hid h1
        clear h1 hkb
        go_wp2_with fail
        go_roundg (gk - 1)
        case measure => have := HI.out; omega
        case rel => exact ⟨i + 1, l, by have := HI.out; omega, by go_num, rfl, by rw [H1.out]; exact HL.out, rfl⟩
      · have hne : ((kd : Int) == 0) = false := by rw [beq_eq_false_iff_ne]; omega
        have hne2 : ¬ ((kd : Int) = 0) := by omega
        have hne3 : ¬ (kd = 0) := h0
        have H1 := Lib.hid (HLO.out i (by rw [← HKD.out]; exact h0))
        clear h0 hkb
        go_wp2_with fail
        go_roundg (gk - 1)
        case measure => have := HI.out; omega
        case rel => exact ⟨i + 1, i, by have := HI.out; omega, by go_num, rfl, H1.out.symm, rfl⟩
    · obtain rfl : i = n := by omega
      have hlt' : decide (i < i) = false := decide_eq_false hlt
      have hlE : l + 1 = E := by have := HL.out; have := HLU.out; omega
      have HLE := Lib.hid hlE
      clear hi hlt
      go_wp2_with fail
      obtain ⟨w0, rfl⟩ : ∃ w0, w0 = wr := ⟨_, rfl⟩
      obtain ⟨g0, rfl⟩ : ∃ g0, g0 = gk := ⟨_, rfl⟩
      go_loopg [5, 6] E (fun q ov iv W => ∃ k : Nat, k + q = E ∧ iv = .int .i64 (k : Nat) ∧ Below w0.heap.size w0 W ∧ Own W w0.heap.size 5 ov (bvs (catN (t.take k))))
      case atStart => exact ⟨0, by omega, rfl, Below.refl _ _, Own.nil _ _ _⟩
      case round =>
        obtain ⟨k, hk, rfl, hb, hown⟩ := hrel
        have HI := Lib.hid hk
        have HB := Lib.hid hb
        have HO := Lib.hid hown
        by_cases hltE : k < E
        · have hlt : k < i := by omega
          have hltb : decide (k < i) = true := decide_eq_true hlt
          have hltI : (k : Int) < (i : Int) := by omega
          have hleI : (k : Int) ≤ (l : Int) := by omega
          have hleB : decide (k ≤ l) = true := decide_eq_true (by omega)
          obtain ⟨b', off', cs, e0, hbl, hnc, hra⟩ := HGN.out wr HB.out k hlt
          obtain ⟨rfl, rfl⟩ : b = b' ∧ off = off' := by
            simp only [Option.some.injEq, Addr.mk.injEq, and_true] at e0
            exact e0
          obtain ⟨D, hD⟩ : ∃ D, D = nd t k := ⟨_, rfl⟩
          have HND := Lib.hid hnc
          rw [← hD] at hnc
          obtain ⟨a1, c1, a2, c2, a3, c3, a4, c4, a5, c5, b1, e1, b2, e2, b3, e3, hcs, -⟩ := hnc
          obtain ⟨kd, hkd⟩ : ∃ k, k = D.kind := ⟨_, rfl⟩
          obtain ⟨l1, hl1⟩ : ∃ l, l = D.leaf.box.length := ⟨_, rfl⟩
          obtain ⟨l2, hl2⟩ : ∃ l, l = D.leaf.sign.length := ⟨_, rfl⟩
          obtain ⟨l3, hl3⟩ : ∃ l, l = D.leaf.ident.length := ⟨_, rfl⟩
          obtain ⟨l4, hl4⟩ : ∃ l, l = D.leaf.par.length := ⟨_, rfl⟩
          obtain ⟨l5, hl5⟩ : ∃ l, l = D.leaf.sig.length := ⟨_, rfl⟩
          obtain ⟨l6, hl6⟩ : ∃ l, l = D.par.box.length := ⟨_, rfl⟩
          obtain ⟨l7, hl7⟩ : ∃ l, l = D.par.hash.length := ⟨_, rfl⟩
          obtain ⟨l8, hl8⟩ : ∃ l, l = D.par.late.length := ⟨_, rfl⟩
          obtain ⟨s, hsrc⟩ : ∃ s, s = D.leaf.source := ⟨_, rfl⟩
          rw [← hkd, ← hl1, ← hl2, ← hl3, ← hl4, ← hl5, ← hl6, ← hl7, ← hl8, ← hsrc] at hcs
          rw [hcs] at hra HND
          have HRA := Lib.hid hra
          clear hkd hl1 hl2 hl3 hl4 hl5 hl6 hl7 hl8 hsrc hD hcs hra e0
          have HCNB := Lib.hid (HNB.out k hlt _ _ HND.out)
          have cs := HCS.out k hlt
          have HCSK := Lib.hid cs
          clear hb hown hk hlE cs
          go_wp2_with (refine wpList_load_mid rfl 54 (.tmp 34) rfl b (off + k * 10) rfl [.int .u8 (kd : Nat), .slice a1 l1 c1, .slice a2 l2 c2, .slice a3 l3 c3, .int .u8 (s : Nat), .slice a4 l4 c4, .slice a5 l5 c5, .slice b1 l6 e1, .slice b2 l7 e2, .slice b3 l8 e3] _ HRA.out Tryz.underlying54 rfl node_info ?_)
          refine HCNB.out.mono ?_
          rintro e w2 ⟨v2, rfl, hown2, hb2⟩
          have HO2 := Lib.hid (HO.out.below hb2 (Nat.le_refl _))
          have HV2 := Lib.hid hown2
          have HB2 := Lib.hid (HB.out.trans (hb2.mono HB.out.size))
          clear hown2 hb2
          go_wp2_with (at_builtin; refine wpList_app rfl (.tmp 31) (.tmp 36) 25 rfl w0.heap.size 5 _ 1 bytesE _ (bvs (catN (t.take k))) rfl HO2.out _ (bvs (nodeB (nd t k))) rfl HV2.out.rd (bvs_one _) ?c1 ?c2 ?_)
          case c1 => rw [bvs_len, bvs_len]; have := HCL.out k; have := HNL.out k; omega
          case c2 => exact HB2.out.size
          rintro v3 w3 hown3 hg3 hb3
          rw [← HCSK.out] at hown3
          have HO3 := Lib.hid hown3
          have HB3 := Lib.hid (HB2.out.trans hb3)
          clear hown3 hg3 hb3
          go_wp2_with fail
          go_roundg (gk - 1)
          case measure => have := HI.out; omega
          case rel => exact ⟨k + 1, by have := HI.out; omega, by go_num, HB3.out, HO3.out⟩
        · obtain rfl : k = E := by omega
          have hgt : ¬ ((k : Int) ≤ (l : Int)) := by omega
          have hgt2 : decide (k ≤ l) = false := decide_eq_false (by omega)
          clear hltE hk hb hown hlE
          have HCP := Lib.hid (HPV.out _ _ HO.out.rd)
          go_wp2_with fail
          refine HCP.out.mono ?_
          rintro e w2 ⟨v2, rfl, hown2, hb2⟩
          have HB2 := Lib.hid (HB.out.trans (hb2.mono HB.out.size))
          have HV2 := Lib.hid (hown2.mono (B' := w0.heap.size) HB.out.size)
          clear hown2 hb2
          go_wp2_with fail
          go_ret
          exact ⟨_, rfl, HV2.out, HB2.out⟩
end Go.Proofs.YtngealmhgkoaiaaGreat
