/- Walks: the law HashParts. -/
import Derived.Test.YtohldijomcljkaaZHashWithout36
import Derived.Test.YtohldijomcljkaaZHashWithout42
import Derived.Test.YtohldijomcljkaaZHashParts00
namespace Go.Proofs.Ytohldijomcljkaa
open Go.RowKit WalkM ShaM WireM
set_option linter.unusedVariables false
theorem sameT_refl (t : List NodeD) : sameT t t = true := sameT_yes rfl fun i hi => by simp [sameNB, sameLB]
theorem OwnK.lit0 {w : World} {B N : Nat} {e : TypeId} {k : Nat} (hN : N = w.heap.size) (hB : B ≤ N) : OwnK (w.alloc (.cells #[] e)) B e k (.slice (some ⟨N, 0, none⟩) 0 0) 0 [] := by
  subst hN; exact World.ownsRow_made w #[] 0 hB (Nat.zero_le _) (by simp)
set_option maxRecDepth 100000 in
set_option maxHeartbeats 8000000 in
theorem hashParts_off {w : World} (v : Value) (t : List NodeD) (x : Int) (hop : TreeR w v t ∧ TreeOk t) (hx : -9223372036854775808 ≤ x ∧ x ≤ 9223372036854775807) (hno : smallT t = false ∨ rightT t = false ∨ x < 0 ∨ (t.length : Int) ≤ x) :
    Calls Try.prog 6 #[v, .int .i64 x] w fun e w' => e = .returned (.bool true) ∧ Below w.heap.size w w' := by
  obtain ⟨h, hok⟩ := hop
  have HAL := Lib.hid (alive18 w)
  have SM := fun (W : World) (hw : Below w.heap.size w W) => tsmall_any v t W (h.below hw (Nat.le_refl _))
  have TB := fun (W : World) (hw : Below w.heap.size w W) => h.below hw (Nat.le_refl _)
  cases hs : smallT t with
  | false =>
    rw [hs] at SM
    have HSM := Lib.hid SM
    obtain ⟨a, n, c, rfl⟩ : ∃ a n c, v = .slice a n c := by obtain ⟨a, c, e, _⟩ := h.sl; exact ⟨_, _, _, e⟩
    clear SM TB h hok hs hno
    go_enter Try.func6, Try.ntmps6
    go_wp2_with fail
    refine (HAL.out).mono ?_
    rintro e w1 ⟨rfl, hb⟩
    have Hw1 := Lib.hid hb
    clear hb
    go_wp2_with fail
    refine (HSM.out w1 Hw1.out).mono ?_
    rintro e w2 ⟨rfl, hb⟩
    have Hw2 := Lib.hid (Hw1.out.trans (hb.mono Hw1.out.size))
    clear hb
    go_wp2_with fail
    go_ret
    exact ⟨rfl, Hw2.out⟩
  | true =>
    rw [hs] at SM
    have HSM := Lib.hid SM
    have RR := fun (W : World) (hw : Below w.heap.size w W) => rtright_any _ t W (TB W hw) hs hok
    cases hr : rightT t with
    | false =>
      rw [hr] at RR
      have HRR := Lib.hid RR
      obtain ⟨a, n, c, rfl⟩ : ∃ a n c, v = .slice a n c := by obtain ⟨a, c, e, _⟩ := h.sl; exact ⟨_, _, _, e⟩
      clear SM TB RR h hok hs hr hno
      go_enter Try.func6, Try.ntmps6
      go_wp2_with fail
      refine (HAL.out).mono ?_
      rintro e w1 ⟨rfl, hb⟩
      have Hw1 := Lib.hid hb
      clear hb
      go_wp2_with fail
      refine (HSM.out w1 Hw1.out).mono ?_
      rintro e w2 ⟨rfl, hb⟩
      have Hw2 := Lib.hid (Hw1.out.trans (hb.mono Hw1.out.size))
      clear hb
      go_wp2_with fail
      refine (HRR.out w2 Hw2.out).mono ?_
      rintro e w3 ⟨rfl, hb⟩
      have Hw3 := Lib.hid (Hw2.out.trans (hb.mono Hw2.out.size))
      clear hb
      go_wp2_with fail
      go_ret
      exact ⟨rfl, Hw3.out⟩
    | true =>
      rw [hr] at RR
      have HRR := Lib.hid RR
      obtain ⟨a, c, rfl, hc, hc2⟩ := h.sl
      have hno : x < 0 ∨ (t.length : Int) ≤ x := by
        rcases hno with h | h | h
        · rw [hs] at h; cases h
        · rw [hr] at h; cases h
        · exact h
      obtain ⟨n, hn⟩ : ∃ n, n = t.length := ⟨_, rfl⟩
      rw [← hn] at HSM HRR hc hno ⊢
      clear SM TB RR h hok hs hr hn
      by_cases h0 : x < 0
      · have h0' : decide (x < 0) = true := decide_eq_true h0
        clear hno
        go_enter Try.func6, Try.ntmps6
        go_wp2_with fail
        refine (HAL.out).mono ?_
        rintro e w1 ⟨rfl, hb⟩
        have Hw1 := Lib.hid hb
        clear hb
        go_wp2_with fail
        refine (HSM.out w1 Hw1.out).mono ?_
        rintro e w2 ⟨rfl, hb⟩
        have Hw2 := Lib.hid (Hw1.out.trans (hb.mono Hw1.out.size))
        clear hb
        go_wp2_with fail
        refine (HRR.out w2 Hw2.out).mono ?_
        rintro e w3 ⟨rfl, hb⟩
        have Hw3 := Lib.hid (Hw2.out.trans (hb.mono Hw2.out.size))
        clear hb
        go_wp2_with fail
        go_ret
        exact ⟨rfl, Hw3.out⟩
      · have h0' : decide (x < 0) = false := decide_eq_false h0
        have h1' : decide (x ≥ (n : Int)) = true := decide_eq_true (by omega)
        have h2' : decide ((n : Int) ≤ x) = true := decide_eq_true (by omega)
        clear hno
        go_enter Try.func6, Try.ntmps6
        go_wp2_with fail
        refine (HAL.out).mono ?_
        rintro e w1 ⟨rfl, hb⟩
        have Hw1 := Lib.hid hb
        clear hb
        go_wp2_with fail
        refine (HSM.out w1 Hw1.out).mono ?_
        rintro e w2 ⟨rfl, hb⟩
        have Hw2 := Lib.hid (Hw1.out.trans (hb.mono Hw1.out.size))
        clear hb
        go_wp2_with fail
        refine (HRR.out w2 Hw2.out).mono ?_
        rintro e w3 ⟨rfl, hb⟩
        have Hw3 := Lib.hid (Hw2.out.trans (hb.mono Hw2.out.size))
        clear hb
        go_wp2_with fail
        go_ret
        exact ⟨rfl, Hw3.out⟩
set_option maxRecDepth 100000 in
set_option maxHeartbeats 8000000 in
theorem hashParts_even {w : World} (v : Value) (t : List NodeD) (x : Nat) (h : TreeR w v t) (hok : TreeOk t) (hs : smallT t = true) (hr : rightT t = true) (hxn : x < t.length) (hev : x % 2 = 0) :
    Calls Try.prog 6 #[v, .int .i64 (x : Nat)] w fun e w' => e = .returned (.bool true) ∧ Below w.heap.size w w' := by
  have HAL := Lib.hid (alive18 w)
  have SM := fun (W : World) (hw : Below w.heap.size w W) => tsmall_any v t W (h.below hw (Nat.le_refl _))
  have TB := fun (W : World) (hw : Below w.heap.size w W) => h.below hw (Nat.le_refl _)
  rw [hs] at SM
  have HSM := Lib.hid SM
  have RR := fun (W : World) (hw : Below w.heap.size w W) => rtright_any _ t W (TB W hw) hs hok
  rw [hr] at RR
  have HRR := Lib.hid RR
  have HA := Lib.hid (fun (W : World) (hw : Below w.heap.size w W) => hall_yes v t W (TB W hw) hs hok hr)
  have WI := fun (W : World) (hw : Below w.heap.size w W) => hwithout_yes v (.slice none 0 0) t x [] W (TB W hw) (rd_nili W) hs hok hr (by simp) hxn
  rw [woD_fun] at WI
  have hlev := lev_within hs hr hxn
  have hxs := hashX_lt (nd t) x
  have SD := fun (W : World) (u u' : Value) (hu : Rd W u (bvs (hashX (nd t) x))) (hu' : Rd W u' (bvs (hashX (nd t) x))) => same_dec u u' _ _ W hu hu' hxs hxs true (decide_eq_true rfl)
  have DG := fun (TX : List Nat) (hT : TX = textN (nd t) (lev x) x) (u : Value) (W : World) (hu : Rd W u (bvs TX)) => (show Calls Try.prog 28 #[u] W fun e w' => ∃ v', e = .returned v' ∧ Own w' W.heap.size 5 v' (bvs (hashX (nd t) x)) ∧ Below W.heap.size W w' from by
    rw [hashX, hashN_eq, ← hT]
    refine digest_any u TX W hu ?_ ?_
    · rw [hT]; exact textN_lt' (nd t) (fun y => hok.nd y) (fun y => smallT_nd hs y) _ x
    · have := textN_len (t := nd t) (fun y => smallT_nd hs y) (lev x) x
      rw [hT]; omega)
  have TS := fun (v' : Value) (W : World) (hw : Below w.heap.size w W) (h' : TreeR W v' t) => (show Calls Try.prog 21 #[v, v'] W fun e w' => e = .returned (.bool true) ∧ Below W.heap.size W w' from by
    have := tsame_any v v' t t W (TB W hw) h' hok hok (by have := smallT_len hs; omega)
    rw [sameT_refl] at this
    exact this)
  have hpl := placed_at (right_placed hr) hxn
  have LT := fun (cs : Array Value) (W : World) (hw : NodeC W (nd t x) cs) => leafText_any ((x / 2 : Nat) : Int) (nd t x) cs W hw (hok.nd x) (smallT_nd hs x)
  have hln40 := smallT_len hs
  have h0 := h
  obtain ⟨ta, c, rfl, hc, hc2⟩ := h.sl
  obtain ⟨b, off, CS, rfl, hbl, hnc, hra⟩ := h.node hxn
  have NCB := fun (W : World) (hw : Below w.heap.size w W) => hnc.below hw (Nat.le_refl _)
  have HSZ := Lib.hid hnc.size
  have hlx : lev x = 0 := lev_even hev (by omega)
  have hk2 : (nd t x).kind ≠ 2 := by have := hpl.1; rwa [otherK_even hev] at this
  have hlt : ltF ((x / 2 : Nat) : Int) (nd t x) = (textN (nd t) (lev x) x, 0) := by
    rw [ltF, if_neg (by omega), if_neg (by rw [hpl.2]; simp [hk2]), Int.toNat_natCast, hlx, textN_zero]
  unfold TextP at LT
  simp only [hlt] at LT
  obtain ⟨TX, hTX⟩ : ∃ T, T = textN (nd t) (lev x) x := ⟨_, rfl⟩
  rw [← hTX] at LT
  have DGT := DG TX hTX
  have HLT := Lib.hid (fun (W : World) (hw : Below w.heap.size w W) => LT CS W (NCB W hw))
  obtain ⟨HX, hHX⟩ : ∃ H, H = hashX (nd t) x := ⟨_, rfl⟩
  have HXE := Lib.hid (show hashX (nd t) x = HX from hHX.symm)
  rw [← hHX] at WI SD DGT
  have HSD := Lib.hid SD
  have HDGX := Lib.hid DGT
  obtain ⟨n, hn⟩ : ∃ n, n = t.length := ⟨_, rfl⟩
  rw [← hn] at HA WI TS HSM HRR hc hln40 hxn h0 ⊢
  have HWI := Lib.hid WI
  have HTSX := Lib.hid TS
  have HT0 := Lib.hid h0
  have HRA0 := Lib.hid hra
  have hp0 : 0 < n := by omega
  have hn40 : n ≤ 1000000 := by omega
  have hxI : (x : Int) < (n : Int) := by omega
  have h0' : decide ((x : Int) < 0) = false := decide_eq_false (by omega)
  have h1' : decide ((x : Int) ≥ (n : Int)) = false := decide_eq_false (by omega)
  have h2' : decide ((n : Int) ≤ (x : Int)) = false := decide_eq_false (by omega)
  have hnn : ((n : Int) != (n : Int)) = false := by simp
  obtain ⟨m, hm0⟩ : ∃ m, m = x / 2 := ⟨_, rfl⟩
  rw [← hm0] at HLT
  have hq : (x : Int) / 2 = (m : Int) := by omega
  have hm : (x : Int) % 2 = 0 := by omega
  clear SM TB RR WI SD DG DGT TS LT NCB hHX hTX hlt hk2 hlx hpl hlev hxs hn hm0 h h0 hnc hra hs hok hr hev
  go_enter Try.func6, Try.ntmps6
  go_wp2_with fail
  refine (HAL.out).mono ?_
  rintro e w1 ⟨rfl, hb⟩
  have Hw1 := Lib.hid hb
  clear hb
  go_wp2_with fail
  refine (HSM.out w1 Hw1.out).mono ?_
  rintro e w2 ⟨rfl, hb⟩
  have Hw2 := Lib.hid (Hw1.out.trans (hb.mono Hw1.out.size))
  clear hb
  go_wp2_with fail
  refine (HRR.out w2 Hw2.out).mono ?_
  rintro e w3 ⟨rfl, hb⟩
  have Hw3 := Lib.hid (Hw2.out.trans (hb.mono Hw2.out.size))
  clear hb
  go_wp2_with (at_builtin; refine wpList_appT rfl (.tmp 34) (.tmp 35) rfl _ n c t HT0.out hp0 hn40 (Hw3.out.alloc Hw3.out.size _) _ rfl (OwnK.lit0 rfl Hw3.out.size) rfl ?_)
  rintro v5 w5 ht5 hb5
  have Hw5 := Lib.hid hb5
  have HS5 := Lib.hid ht5
  obtain ⟨s1, s2, s3, rfl⟩ : ∃ a n c, v5 = .slice a n c := by obtain ⟨a, c, e, _⟩ := ht5.sl; exact ⟨_, _, _, e⟩
  clear ht5 hb5
  go_wp2_with fail
  refine (HA.out w5 Hw5.out).mono ?_
  rintro e w6 ⟨g, hg, rfl, hall, hb⟩
  have Hw6 := Lib.hid (Hw5.out.trans (hb.mono Hw5.out.size))
  have HS6 := Lib.hid (HS5.out.below hb (Nat.le_refl _))
  have HL6 := Lib.hid hall
  clear hb hall HS5 hg
  have HRA6 := Lib.hid (rangeAt_below HRA0.out Hw6.out hbl)
  go_wp2_with (refine wpList_load_mid rfl 46 (.tmp 57) rfl b (off + x * 10) rfl CS.toList _ HRA6.out Try.underlying46 rfl (by rw [Array.length_toList, HSZ.out]; exact node_info) ?_)
  refine (HLT.out w6 Hw6.out).mono ?_
  rintro e w7 ⟨hb, v7, rfl, hown7⟩
  have Hw7 := Lib.hid (Hw6.out.trans (hb.mono Hw6.out.size))
  have HS7 := Lib.hid (HS6.out.below hb (Nat.le_refl _))
  have HL7 := Lib.hid (HL6.out.below hb)
  have HTX7 := Lib.hid hown7.rd
  obtain ⟨t1, t2, t3, rfl⟩ := slOf hown7
  clear hb hown7 HS6 HL6
  go_wp2_with fail
  refine (HWI.out w7 Hw7.out).mono ?_
  rintro e wr ⟨uh, rfl, hru, hb⟩
  have Hwr := Lib.hid (Hw7.out.trans (hb.mono Hw7.out.size))
  have HSr := Lib.hid (HS7.out.below hb (Nat.le_refl _))
  have HLr := Lib.hid (HL7.out.below hb)
  have HTXr := Lib.hid (HTX7.out.below hb (Nat.le_refl _))
  have HUr := Lib.hid hru
  obtain ⟨h1, h2, h3, rfl⟩ := rdS hru
  obtain ⟨uk, hci, hri, _⟩ := HLr.out.row hxn rfl
  have HKr := Lib.hid hri
  obtain ⟨k1, k2, k3, rfl⟩ := rdS hri
  have hgl : g < wr.heap.size := HLr.out.lt
  have HDG := Lib.hid (fun (W : World) (hw : Below wr.heap.size wr W) => HDGX.out _ W (HTXr.out.below hw (Nat.le_refl _)))
  have HS1 := Lib.hid (fun (W : World) (hw : Below wr.heap.size wr W) (v' : Value) (hv' : Rd W v' (bvs HX)) => HSD.out W _ v' (by have := HKr.out.below hw (Nat.le_refl _); rw [HXE.out] at this; exact this) hv')
  have HS2 := Lib.hid (fun (W : World) (hw : Below wr.heap.size wr W) => HSD.out W _ _ (HUr.out.below hw (Nat.le_refl _)) (by have := HKr.out.below hw (Nat.le_refl _); rw [HXE.out] at this; exact this))
  have HTS := Lib.hid (fun (W : World) (hw : Below wr.heap.size wr W) => HTSX.out _ W (Hwr.out.trans (hw.mono Hwr.out.size)) (HSr.out.below hw (Nat.le_refl _)))
  clear hb hru hri HS7 HL7 HTX7
  go_wp2_with fail
  refine wp_region_rel [fun v _ => v = .int .u8 0, fun v _ => v = .int .i64 0, fun v _ => v = .int .u8 0, fun v _ => v = .int .i64 0, fun v _ => v = .int .i64 0, fun v _ => v = .bool true, fun v _ => v = .bool true, fun v _ => v = .slice (some ⟨g, 0, none⟩) n n, fun v _ => v = .int .i64 (x : Nat), fun v _ => v = .pointer (some ⟨g, x, none⟩), fun v _ => v = .slice k1 k2 k3, fun v _ => v = .slice t1 t2 t3, fun v w' => Own w' wr.heap.size 5 v (bvs HX), fun v _ => v = .bool true, fun v _ => v = .bool true, fun v _ => v = .bool true, fun v _ => v = .slice h1 h2 h3, fun v _ => v = .slice (some ⟨g, 0, none⟩) n n, fun v _ => v = .int .i64 (x : Nat), fun v _ => v = .pointer (some ⟨g, x, none⟩), fun v _ => v = .slice k1 k2 k3, fun v _ => v = .bool true, fun v _ => v = .bool true, fun v _ => v = .bool true, fun v _ => v = .slice (some ⟨b, off, none⟩) n c, fun v _ => v = .slice s1 s2 s3, fun v _ => v = .bool true, fun v _ => v = .bool true, fun v _ => v = .bool true]
    [true, true, true, true, true, true, true, true, true, true, true, true, true, true, true, true, true, true, true, true, true, true, true, true, true, true, true, true, true] (fun x => Below wr.heap.size wr x) (fun x y => Below x.heap.size x y) none (by kernel_rfl) ?_ (⟨rfl, rfl, rfl, Nat.le_refl _, fun _ _ => rfl⟩) (fun x y _ h => h) (fun x y hx hs => hx.trans (hs.mono hx.size)) (by kernel_rfl) (by kernel_rfl) ?_ ?_
  · exact keepsR_n (fun _ _ _ h _ _ => h) (keepsR_n (fun _ _ _ h _ _ => h) (keepsR_n (fun _ _ _ h _ _ => h) (keepsR_n (fun _ _ _ h _ _ => h) (keepsR_n (fun _ _ _ h _ _ => h) (keepsR_n (fun _ _ _ h _ _ => h) (keepsR_n (fun _ _ _ h _ _ => h) (keepsR_n (fun _ _ _ h _ _ => h) (keepsR_n (fun _ _ _ h _ _ => h) (keepsR_n (fun _ _ _ h _ _ => h) (keepsR_n (fun _ _ _ h _ _ => h) (keepsR_n (fun _ _ _ h _ _ => h) (keepsR_n (fun v x y h _ hs => Own.below h hs (Nat.le_refl _)) (keepsR_n (fun _ _ _ h _ _ => h) (keepsR_n (fun _ _ _ h _ _ => h) (keepsR_n (fun _ _ _ h _ _ => h) (keepsR_n (fun _ _ _ h _ _ => h) (keepsR_n (fun _ _ _ h _ _ => h) (keepsR_n (fun _ _ _ h _ _ => h) (keepsR_n (fun _ _ _ h _ _ => h) (keepsR_n (fun _ _ _ h _ _ => h) (keepsR_n (fun _ _ _ h _ _ => h) (keepsR_n (fun _ _ _ h _ _ => h) (keepsR_n (fun _ _ _ h _ _ => h) (keepsR_n (fun _ _ _ h _ _ => h) (keepsR_n (fun _ _ _ h _ _ => h) (keepsR_n (fun _ _ _ h _ _ => h) (keepsR_n (fun _ _ _ h _ _ => h) (keepsR_n (fun _ _ _ h _ _ => h) (keepsR_nil)))))))))))))))))))))))))))))
  · refine .cons (owed7_go ?_) (.cons (owed7_go ?_) (.cons (owed7_go ?_) (.cons (owed7_go ?_) (.cons (owed7_go ?_) (.cons (owed7_go ?_) (.cons (owed7_go ?_) (.cons (owed7_go ?_) (.cons (owed7_go ?_) (.cons (owed7_go ?_) (.cons (owed7_go ?_) (.cons (owed7_go ?_) (.cons (owed7_go ?_) (.cons (owed7_go ?_) (.cons (owed7_go ?_) (.cons (owed7_go ?_) (.cons (owed7_go ?_) (.cons (owed7_go ?_) (.cons (owed7_go ?_) (.cons (owed7_go ?_) (.cons (owed7_go ?_) (.cons (owed7_go ?_) (.cons (owed7_go ?_) (.cons (owed7_go ?_) (.cons (owed7_go ?_) (.cons (owed7_go ?_) (.cons (owed7_go ?_) (.cons (owed7_go ?_) (.cons (owed7_go ?_) (.nil)))))))))))))))))))))))))))))
    · intro a wx hbx hq ho hf
      have hbx : Below wr.heap.size wr wx := hbx
      have hbq : Below wr.heap.size wr wx := hq (by kernel_rfl)
      clear hq
      refine ⟨rfl, ?_⟩
      intro K hK
      have e0 : a.tmps[9]?.getD undef = .int .u8 0 := ho 9 (by kernel_rfl)
      go_simp
      exact hK _ _ rfl (stepR_no rfl (Below.refl _ _))
    · intro a wx hbx hq ho hf
      have hbx : Below wr.heap.size wr wx := hbx
      have hbq : Below wr.heap.size wr wx := hq (by kernel_rfl)
      clear hq
      refine ⟨rfl, ?_⟩
      intro K hK
      have e0 : a.tmps[92]?.getD undef = .int .u8 0 := hf.1
      have gw1 : IntKind.i64.wrap (0) = 0 := by rw [IntKind.wrap_i64]; omega
      go_simp
      exact hK _ _ rfl (stepR_no rfl (Below.refl _ _))
    · intro a wx hbx hq ho hf
      have hbx : Below wr.heap.size wr wx := hbx
      have hbq : Below wr.heap.size wr wx := hq (by kernel_rfl)
      clear hq
      refine ⟨rfl, ?_⟩
      intro K hK
      have e0 : a.tmps[13]?.getD undef = .int .u8 0 := ho 13 (by kernel_rfl)
      go_simp
      exact hK _ _ rfl (stepR_no rfl (Below.refl _ _))
    · intro a wx hbx hq ho hf
      have hbx : Below wr.heap.size wr wx := hbx
      have hbq : Below wr.heap.size wr wx := hq (by kernel_rfl)
      clear hq
      refine ⟨rfl, ?_⟩
      intro K hK
      have e0 : a.tmps[94]?.getD undef = .int .u8 0 := hf.1
      have gw1 : IntKind.i64.wrap (0) = 0 := by rw [IntKind.wrap_i64]; omega
      go_simp
      exact hK _ _ rfl (stepR_no rfl (Below.refl _ _))
    · intro a wx hbx hq ho hf
      have hbx : Below wr.heap.size wr wx := hbx
      have hbq : Below wr.heap.size wr wx := hq (by kernel_rfl)
      clear hq
      refine ⟨rfl, ?_⟩
      intro K hK
      have e0 : a.tmps[93]?.getD undef = .int .i64 0 := hf.1
      have e1 : a.tmps[95]?.getD undef = .int .i64 0 := hf.2.1
      have gw1 : IntKind.i64.wrap (0) = 0 := by rw [IntKind.wrap_i64]; omega
      go_simp
      exact hK _ _ rfl (stepR_no rfl (Below.refl _ _))
    · intro a wx hbx hq ho hf
      have hbx : Below wr.heap.size wr wx := hbx
      have hbq : Below wr.heap.size wr wx := hq (by kernel_rfl)
      clear hq
      refine ⟨rfl, ?_⟩
      intro K hK
      have e0 : a.tmps[96]?.getD undef = .int .i64 0 := hf.1
      go_simp
      exact hK _ _ rfl (stepR_no rfl (Below.refl _ _))
    · intro a wx hbx hq ho hf
      have hbx : Below wr.heap.size wr wx := hbx
      have hbq : Below wr.heap.size wr wx := hq (by kernel_rfl)
      clear hq
      refine ⟨rfl, ?_⟩
      intro K hK
      have e0 : a.tmps[97]?.getD undef = .bool true := hf.1
      go_simp
      exact hK _ _ rfl (stepR_no rfl (Below.refl _ _))
    · intro a wx hbx hq ho hf
      have hbx : Below wr.heap.size wr wx := hbx
      have hbq : Below wr.heap.size wr wx := hq (by kernel_rfl)
      clear hq
      refine ⟨wanted_slot (j := 6) (b := true) (s := 98) rfl rfl rfl (hf.1), ?_⟩
      intro K hK
      have e0 : a.tmps[6]?.getD undef = .slice (some ⟨g, 0, none⟩) n n := ho 6 (by kernel_rfl)
      go_simp
      exact hK _ _ rfl (stepR_no rfl (Below.refl _ _))
    · intro a wx hbx hq ho hf
      have hbx : Below wr.heap.size wr wx := hbx
      have hbq : Below wr.heap.size wr wx := hq (by kernel_rfl)
      clear hq
      refine ⟨wanted_slot (j := 6) (b := true) (s := 98) rfl rfl rfl (hf.1), ?_⟩
      intro K hK
      have e0 : a.tmps[1]?.getD undef = .int .i64 (x : Nat) := ho 1 (by kernel_rfl)
      go_simp
      exact hK _ _ rfl (stepR_no rfl (Below.refl _ _))
    · intro a wx hbx hq ho hf
      have hbx : Below wr.heap.size wr wx := hbx
      have hbq : Below wr.heap.size wr wx := hq (by kernel_rfl)
      clear hq
      refine ⟨wanted_slot (j := 6) (b := true) (s := 98) rfl rfl rfl (hf.2.2.1), ?_⟩
      intro K hK
      have e0 : a.tmps[99]?.getD undef = .slice (some ⟨g, 0, none⟩) n n := hf.1
      have e1 : a.tmps[100]?.getD undef = .int .i64 (x : Nat) := hf.2.1
      go_simp
      exact hK _ _ rfl (stepR_no rfl (Below.refl _ _))
    · intro a wx hbx hq ho hf
      have hbx : Below wr.heap.size wr wx := hbx
      have hbq : Below wr.heap.size wr wx := hq (by kernel_rfl)
      clear hq
      refine ⟨wanted_slot (j := 6) (b := true) (s := 98) rfl rfl rfl (hf.2.1), ?_⟩
      intro K hK
      have e0 : a.tmps[101]?.getD undef = .pointer (some ⟨g, x, none⟩) := hf.1
      have d1 := (hbx.cell (p := ⟨g, x, none⟩) hgl).trans hci
      go_simp
      exact hK _ _ rfl (stepR_no rfl (Below.refl _ _))
    · intro a wx hbx hq ho hf
      have hbx : Below wr.heap.size wr wx := hbx
      have hbq : Below wr.heap.size wr wx := hq (by kernel_rfl)
      clear hq
      refine ⟨wanted_slot (j := 6) (b := true) (s := 98) rfl rfl rfl (hf.1), ?_⟩
      intro K hK
      have e0 : a.tmps[8]?.getD undef = .slice t1 t2 t3 := ho 8 (by kernel_rfl)
      go_simp
      exact hK _ _ rfl (stepR_no rfl (Below.refl _ _))
    · intro a wx hbx hq ho hf
      have hbx : Below wr.heap.size wr wx := hbx
      have hbq : Below wr.heap.size wr wx := hq (by kernel_rfl)
      clear hq
      refine ⟨wanted_slot (j := 6) (b := true) (s := 98) rfl rfl rfl (hf.2.1), ?_⟩
      intro K hK
      have e0 : a.tmps[103]?.getD undef = .slice t1 t2 t3 := hf.1
      go_simp
      refine (HDG.out wx hbx).mono ?_
      rintro e w2 ⟨v9, rfl, hown, hb2⟩
      exact hK _ _ (hown.mono hbx.size) (stepR_no rfl hb2)
    · intro a wx hbx hq ho hf
      have hbx : Below wr.heap.size wr wx := hbx
      have hbq : Below wr.heap.size wr wx := hq (by kernel_rfl)
      clear hq
      refine ⟨wanted_slot (j := 6) (b := true) (s := 98) rfl rfl rfl (hf.2.2.2.1), ?_⟩
      intro K hK
      have e0 : a.tmps[102]?.getD undef = .slice k1 k2 k3 := hf.1
      have o1 : Own wx wr.heap.size 5 (a.tmps[104]?.getD undef) (bvs HX) := hf.2.1
      obtain ⟨v1, hv1⟩ : ∃ v, v = a.tmps[104]?.getD undef := ⟨_, rfl⟩
      rw [← hv1] at o1
      have e1 := hv1.symm
      clear hv1
      go_simp
      refine (HS1.out wx hbx v1 o1.rd).mono ?_
      rintro e w2 ⟨rfl, n9, rfl⟩
      exact hK _ _ rfl (stepR_no rfl (below_drewN' (Below.refl _ _) _))
    · intro a wx hbx hq ho hf
      have hbx : Below wr.heap.size wr wx := hbx
      have hbq : Below wr.heap.size wr wx := hq (by kernel_rfl)
      clear hq
      refine ⟨rfl, ?_⟩
      intro K hK
      have e0 : a.tmps[98]?.getD undef = .bool true := hf.1
      have e1 : a.tmps[105]?.getD undef = .bool true := hf.2.1
      go_simp
      exact hK _ _ rfl (stepR_no rfl (Below.refl _ _))
    · intro a wx hbx hq ho hf
      have hbx : Below wr.heap.size wr wx := hbx
      have hbq : Below wr.heap.size wr wx := hq (by kernel_rfl)
      clear hq
      refine ⟨rfl, ?_⟩
      intro K hK
      have e0 : a.tmps[106]?.getD undef = .bool true := hf.1
      go_simp
      exact hK _ _ rfl (stepR_no rfl (Below.refl _ _))
    · intro a wx hbx hq ho hf
      have hbx : Below wr.heap.size wr wx := hbx
      have hbq : Below wr.heap.size wr wx := hq (by kernel_rfl)
      clear hq
      refine ⟨wanted_slot (j := 15) (b := true) (s := 107) rfl rfl rfl (hf.1), ?_⟩
      intro K hK
      have e0 : a.tmps[12]?.getD undef = .slice h1 h2 h3 := ho 12 (by kernel_rfl)
      go_simp
      exact hK _ _ rfl (stepR_no rfl (Below.refl _ _))
    · intro a wx hbx hq ho hf
      have hbx : Below wr.heap.size wr wx := hbx
      have hbq : Below wr.heap.size wr wx := hq (by kernel_rfl)
      clear hq
      refine ⟨wanted_slot (j := 15) (b := true) (s := 107) rfl rfl rfl (hf.1), ?_⟩
      intro K hK
      have e0 : a.tmps[6]?.getD undef = .slice (some ⟨g, 0, none⟩) n n := ho 6 (by kernel_rfl)
      go_simp
      exact hK _ _ rfl (stepR_no rfl (Below.refl _ _))
    · intro a wx hbx hq ho hf
      have hbx : Below wr.heap.size wr wx := hbx
      have hbq : Below wr.heap.size wr wx := hq (by kernel_rfl)
      clear hq
      refine ⟨wanted_slot (j := 15) (b := true) (s := 107) rfl rfl rfl (hf.1), ?_⟩
      intro K hK
      have e0 : a.tmps[1]?.getD undef = .int .i64 (x : Nat) := ho 1 (by kernel_rfl)
      go_simp
      exact hK _ _ rfl (stepR_no rfl (Below.refl _ _))
    · intro a wx hbx hq ho hf
      have hbx : Below wr.heap.size wr wx := hbx
      have hbq : Below wr.heap.size wr wx := hq (by kernel_rfl)
      clear hq
      refine ⟨wanted_slot (j := 15) (b := true) (s := 107) rfl rfl rfl (hf.2.2.1), ?_⟩
      intro K hK
      have e0 : a.tmps[109]?.getD undef = .slice (some ⟨g, 0, none⟩) n n := hf.1
      have e1 : a.tmps[110]?.getD undef = .int .i64 (x : Nat) := hf.2.1
      go_simp
      exact hK _ _ rfl (stepR_no rfl (Below.refl _ _))
    · intro a wx hbx hq ho hf
      have hbx : Below wr.heap.size wr wx := hbx
      have hbq : Below wr.heap.size wr wx := hq (by kernel_rfl)
      clear hq
      refine ⟨wanted_slot (j := 15) (b := true) (s := 107) rfl rfl rfl (hf.2.1), ?_⟩
      intro K hK
      have e0 : a.tmps[111]?.getD undef = .pointer (some ⟨g, x, none⟩) := hf.1
      have d1 := (hbx.cell (p := ⟨g, x, none⟩) hgl).trans hci
      go_simp
      exact hK _ _ rfl (stepR_no rfl (Below.refl _ _))
    · intro a wx hbx hq ho hf
      have hbx : Below wr.heap.size wr wx := hbx
      have hbq : Below wr.heap.size wr wx := hq (by kernel_rfl)
      clear hq
      refine ⟨wanted_slot (j := 15) (b := true) (s := 107) rfl rfl rfl (hf.2.2.1), ?_⟩
      intro K hK
      have e0 : a.tmps[108]?.getD undef = .slice h1 h2 h3 := hf.1
      have e1 : a.tmps[112]?.getD undef = .slice k1 k2 k3 := hf.2.1
      go_simp
      refine (HS2.out wx hbx).mono ?_
      rintro e w2 ⟨rfl, n9, rfl⟩
      exact hK _ _ rfl (stepR_no rfl (below_drewN' (Below.refl _ _) _))
    · intro a wx hbx hq ho hf
      have hbx : Below wr.heap.size wr wx := hbx
      have hbq : Below wr.heap.size wr wx := hq (by kernel_rfl)
      clear hq
      refine ⟨rfl, ?_⟩
      intro K hK
      have e0 : a.tmps[107]?.getD undef = .bool true := hf.1
      have e1 : a.tmps[113]?.getD undef = .bool true := hf.2.1
      go_simp
      exact hK _ _ rfl (stepR_no rfl (Below.refl _ _))
    · intro a wx hbx hq ho hf
      have hbx : Below wr.heap.size wr wx := hbx
      have hbq : Below wr.heap.size wr wx := hq (by kernel_rfl)
      clear hq
      refine ⟨rfl, ?_⟩
      intro K hK
      have e0 : a.tmps[114]?.getD undef = .bool true := hf.1
      go_simp
      exact hK _ _ rfl (stepR_no rfl (Below.refl _ _))
    · intro a wx hbx hq ho hf
      have hbx : Below wr.heap.size wr wx := hbx
      have hbq : Below wr.heap.size wr wx := hq (by kernel_rfl)
      clear hq
      refine ⟨wanted_slot (j := 23) (b := true) (s := 115) rfl rfl rfl (hf.1), ?_⟩
      intro K hK
      have e0 : a.tmps[0]?.getD undef = .slice (some ⟨b, off, none⟩) n c := ho 0 (by kernel_rfl)
      go_simp
      exact hK _ _ rfl (stepR_no rfl (Below.refl _ _))
    · intro a wx hbx hq ho hf
      have hbx : Below wr.heap.size wr wx := hbx
      have hbq : Below wr.heap.size wr wx := hq (by kernel_rfl)
      clear hq
      refine ⟨wanted_slot (j := 23) (b := true) (s := 115) rfl rfl rfl (hf.1), ?_⟩
      intro K hK
      have e0 : a.tmps[5]?.getD undef = .slice s1 s2 s3 := ho 5 (by kernel_rfl)
      go_simp
      exact hK _ _ rfl (stepR_no rfl (Below.refl _ _))
    · intro a wx hbx hq ho hf
      have hbx : Below wr.heap.size wr wx := hbx
      have hbq : Below wr.heap.size wr wx := hq (by kernel_rfl)
      clear hq
      refine ⟨wanted_slot (j := 23) (b := true) (s := 115) rfl rfl rfl (hf.2.2.1), ?_⟩
      intro K hK
      have e0 : a.tmps[116]?.getD undef = .slice (some ⟨b, off, none⟩) n c := hf.1
      have e1 : a.tmps[117]?.getD undef = .slice s1 s2 s3 := hf.2.1
      go_simp
      refine (HTS.out wx hbx).mono ?_
      rintro e w2 ⟨rfl, hb2⟩
      exact hK _ _ rfl (stepR_no rfl hb2)
    · intro a wx hbx hq ho hf
      have hbx : Below wr.heap.size wr wx := hbx
      have hbq : Below wr.heap.size wr wx := hq (by kernel_rfl)
      clear hq
      refine ⟨rfl, ?_⟩
      intro K hK
      have e0 : a.tmps[115]?.getD undef = .bool true := hf.1
      have e1 : a.tmps[118]?.getD undef = .bool true := hf.2.1
      go_simp
      exact hK _ _ rfl (stepR_no rfl (Below.refl _ _))
    · intro a wx hbx hq ho hf
      have hbx : Below wr.heap.size wr wx := hbx
      have hbq : Below wr.heap.size wr wx := hq (by kernel_rfl)
      clear hq
      refine ⟨rfl, ?_⟩
      intro K hK
      have e0 : a.tmps[119]?.getD undef = .bool true := hf.1
      go_simp
      exact hK _ _ rfl (stepR_no rfl (Below.refl _ _))
  · rintro f w9 hb9 hfin
    have hb9 : Below wr.heap.size wr w9 := hb9
    have S4 : f 4 = .bool true := hfin.2.2.2.2.2.2.2.2.2.2.2.2.2.2.2.2.2.2.2.2.2.2.2.2.2.2.2.2.1
    clear hfin
    simp only [frameOf, dstsOf, zipF, List.filterMap_cons, List.filterMap_nil, List.contains_cons, List.contains_nil, Nat.reduceBEq, Nat.reduceAdd, Bool.or_false, Bool.or_true, cond_true, cond_false]
    rw [S4]
    clear S4
    have HB9 := Hwr.out.trans (hb9.mono Hwr.out.size)
    go_wp2_with fail
    go_ret
    exact ⟨rfl, HB9⟩
set_option maxRecDepth 100000 in
set_option maxHeartbeats 8000000 in
theorem hashParts_odd {w : World} (v : Value) (t : List NodeD) (x : Nat) (h : TreeR w v t) (hok : TreeOk t) (hs : smallT t = true) (hr : rightT t = true) (hxn : x < t.length) (hod : x % 2 = 1) :
    Calls Try.prog 6 #[v, .int .i64 (x : Nat)] w fun e w' => e = .returned (.bool true) ∧ Below w.heap.size w w' := by
  have HAL := Lib.hid (alive18 w)
  have SM := fun (W : World) (hw : Below w.heap.size w W) => tsmall_any v t W (h.below hw (Nat.le_refl _))
  have TB := fun (W : World) (hw : Below w.heap.size w W) => h.below hw (Nat.le_refl _)
  rw [hs] at SM
  have HSM := Lib.hid SM
  have RR := fun (W : World) (hw : Below w.heap.size w W) => rtright_any _ t W (TB W hw) hs hok
  rw [hr] at RR
  have HRR := Lib.hid RR
  have HA := Lib.hid (fun (W : World) (hw : Below w.heap.size w W) => hall_yes v t W (TB W hw) hs hok hr)
  have WI := fun (W : World) (hw : Below w.heap.size w W) => hwithout_yes v (.slice none 0 0) t x [] W (TB W hw) (rd_nili W) hs hok hr (by simp) hxn
  rw [woD_fun] at WI
  have hlev := lev_within hs hr hxn
  have hxs := hashX_lt (nd t) x
  have SD := fun (W : World) (u u' : Value) (hu : Rd W u (bvs (hashX (nd t) x))) (hu' : Rd W u' (bvs (hashX (nd t) x))) => same_dec u u' _ _ W hu hu' hxs hxs true (decide_eq_true rfl)
  have DG := fun (TX : List Nat) (hT : TX = textN (nd t) (lev x) x) (u : Value) (W : World) (hu : Rd W u (bvs TX)) => (show Calls Try.prog 28 #[u] W fun e w' => ∃ v', e = .returned v' ∧ Own w' W.heap.size 5 v' (bvs (hashX (nd t) x)) ∧ Below W.heap.size W w' from by
    rw [hashX, hashN_eq, ← hT]
    refine digest_any u TX W hu ?_ ?_
    · rw [hT]; exact textN_lt' (nd t) (fun y => hok.nd y) (fun y => smallT_nd hs y) _ x
    · have := textN_len (t := nd t) (fun y => smallT_nd hs y) (lev x) x
      rw [hT]; omega)
  have TS := fun (v' : Value) (W : World) (hw : Below w.heap.size w W) (h' : TreeR W v' t) => (show Calls Try.prog 21 #[v, v'] W fun e w' => e = .returned (.bool true) ∧ Below W.heap.size W w' from by
    have := tsame_any v v' t t W (TB W hw) h' hok hok (by have := smallT_len hs; omega)
    rw [sameT_refl] at this
    exact this)
  have hpl := placed_at (right_placed hr) hxn
  have LT := fun (cs : Array Value) (W : World) (hw : NodeC W (nd t x) cs) => leafText_any ((x / 2 : Nat) : Int) (nd t x) cs W hw (hok.nd x) (smallT_nd hs x)
  have hln40 := smallT_len hs
  have h0 := h
  obtain ⟨ta, c, rfl, hc, hc2⟩ := h.sl
  obtain ⟨b, off, CS, rfl, hbl, hnc, hra⟩ := h.node hxn
  have NCB := fun (W : World) (hw : Below w.heap.size w W) => hnc.below hw (Nat.le_refl _)
  have HSZ := Lib.hid hnc.size
  obtain ⟨k, hlx⟩ : ∃ k, lev x = k + 1 := by
    cases hk : lev x with
    | zero => have := hlev.1; rw [hk] at this; have := lev_zero this; omega
    | succ k => exact ⟨k, rfl⟩
  have hlev1 := hlev.1
  rw [hlx] at hlev1
  obtain ⟨hkl, hkr, hl1, hl2, hkx⟩ := kids_lev (by omega) hlev1
  have hp1 : 0 < 2 ^ k := Nat.pos_of_ne_zero (by simp)
  have hpw : 2 ^ (k + 1) = 2 * 2 ^ k := by rw [Nat.pow_succ]; omega
  have hup := hlev.2
  rw [hlx, hpw] at hup
  have KD := fun (W : World) => kids_any (x : Int) W
  rw [hkl, hkr] at KD
  have e1 : hashX (nd t) (x - 2 ^ k) = hashN (nd t) k (x - 2 ^ k) := by rw [hashX, lev_eq (by omega) hl1]
  have e2 : hashX (nd t) (x + 2 ^ k) = hashN (nd t) k (x + 2 ^ k) := by rw [hashX, lev_eq (by omega) hl2]
  have hk1 : (nd t x).kind ≠ 1 := by have := hpl.1; rwa [otherK_odd hod] at this
  have hl32 := hashX_len (nd t) (x - 2 ^ k)
  have hr32 := hashX_len (nd t) (x + 2 ^ k)
  have htx : textN (nd t) (lev x) x = ([2] ++ nodeB (nd t x)) ++ (vecB (hashX (nd t) (x - 2 ^ k)) ++ vecB (hashX (nd t) (x + 2 ^ k))) := by rw [hlx, textN_succ, e1, e2]
  obtain ⟨TX, hTX⟩ : ∃ T, T = textN (nd t) (lev x) x := ⟨_, rfl⟩
  rw [← hTX] at htx
  have DGT := DG TX hTX
  have PT := fun (W : World) (hw : NodeC W (nd t x) CS) (vl vr : Value) (h1 : Rd W vl (bvs (hashX (nd t) (x - 2 ^ k)))) (h2 : Rd W vr (bvs (hashX (nd t) (x + 2 ^ k)))) => parentText_any (nd t x) CS vl vr _ _ W hw (hok.nd x) (smallT_nd hs x) h1 h2
  have hpt : ptF (nd t x) (hashX (nd t) (x - 2 ^ k)) (hashX (nd t) (x + 2 ^ k)) = (TX, 0) := by
    rw [ptF, if_neg (by rw [hpl.2]; simp [hk1]), if_neg (by simp [hl32, hr32]), htx, List.append_assoc _ (vecB (hashX (nd t) (x - 2 ^ k)))]
  unfold TextP at PT LT
  simp only [hpt] at PT
  have HLT := Lib.hid (fun (W : World) (hw : Below w.heap.size w W) => LT CS W (NCB W hw))
  have hxrn : x + 2 ^ k < t.length := by omega
  obtain ⟨HX, hHX⟩ : ∃ H, H = hashX (nd t) x := ⟨_, rfl⟩
  have HXE := Lib.hid (show hashX (nd t) x = HX from hHX.symm)
  rw [← hHX] at WI SD DGT
  have HSD := Lib.hid SD
  have HDGX := Lib.hid DGT
  obtain ⟨n, hn⟩ : ∃ n, n = t.length := ⟨_, rfl⟩
  rw [← hn] at HA WI TS HSM HRR hc hln40 hxn h0 ⊢
  have HWI := Lib.hid WI
  have HTSX := Lib.hid TS
  have HT0 := Lib.hid h0
  have HRA0 := Lib.hid hra
  have hp0 : 0 < n := by omega
  have hn40 : n ≤ 1000000 := by omega
  have hxI : (x : Int) < (n : Int) := by omega
  have h0' : decide ((x : Int) < 0) = false := decide_eq_false (by omega)
  have h1' : decide ((x : Int) ≥ (n : Int)) = false := decide_eq_false (by omega)
  have h2' : decide ((n : Int) ≤ (x : Int)) = false := decide_eq_false (by omega)
  have hnn : ((n : Int) != (n : Int)) = false := by simp
  obtain ⟨m, hm0⟩ : ∃ m, m = x / 2 := ⟨_, rfl⟩
  rw [← hm0] at HLT
  obtain ⟨LR, hLR⟩ : ∃ LR, LR = ltF (m : Int) (nd t x) := ⟨_, rfl⟩
  rw [← hLR] at HLT
  have hq : (x : Int) / 2 = (m : Int) := by omega
  have hm : (x : Int) % 2 = 1 := by omega
  obtain ⟨xl, hxl⟩ : ∃ y, y = x - 2 ^ k := ⟨_, rfl⟩
  obtain ⟨xr, hxr⟩ : ∃ y, y = x + 2 ^ k := ⟨_, rfl⟩
  rw [← hxl] at PT KD
  rw [← hxr] at PT KD hxrn
  rw [← hn] at hxrn
  have hxln : xl < n := by omega
  have hxlI : (xl : Int) < (n : Int) := by omega
  have hxrI : (xr : Int) < (n : Int) := by omega
  have HKD := Lib.hid KD
  have HPT0 := Lib.hid PT
  have HNC := Lib.hid NCB
  clear SM TB RR WI SD DG DGT TS LT NCB PT KD hHX hTX hlx hpl hlev hlev1 hup hxs hn hm0 h h0 hnc hra hs hok hr hod hk1 hl32 hr32 htx hpt hkl hkr hl1 hl2 hkx hp1 hpw e1 e2 hxl hxr hLR
  go_enter Try.func6, Try.ntmps6
  go_wp2_with fail
  refine (HAL.out).mono ?_
  rintro e w1 ⟨rfl, hb⟩
  have Hw1 := Lib.hid hb
  clear hb
  go_wp2_with fail
  refine (HSM.out w1 Hw1.out).mono ?_
  rintro e w2 ⟨rfl, hb⟩
  have Hw2 := Lib.hid (Hw1.out.trans (hb.mono Hw1.out.size))
  clear hb
  go_wp2_with fail
  refine (HRR.out w2 Hw2.out).mono ?_
  rintro e w3 ⟨rfl, hb⟩
  have Hw3 := Lib.hid (Hw2.out.trans (hb.mono Hw2.out.size))
  clear hb
  go_wp2_with (at_builtin; refine wpList_appT rfl (.tmp 34) (.tmp 35) rfl _ n c t HT0.out hp0 hn40 (Hw3.out.alloc Hw3.out.size _) _ rfl (OwnK.lit0 rfl Hw3.out.size) rfl ?_)
  rintro v5 w5 ht5 hb5
  have Hw5 := Lib.hid hb5
  have HS5 := Lib.hid ht5
  obtain ⟨s1, s2, s3, rfl⟩ : ∃ a n c, v5 = .slice a n c := by obtain ⟨a, c, e, _⟩ := ht5.sl; exact ⟨_, _, _, e⟩
  clear ht5 hb5
  go_wp2_with fail
  refine (HA.out w5 Hw5.out).mono ?_
  rintro e w6 ⟨g, hg, rfl, hall, hb⟩
  have Hw6 := Lib.hid (Hw5.out.trans (hb.mono Hw5.out.size))
  have HS6 := Lib.hid (HS5.out.below hb (Nat.le_refl _))
  have HL6 := Lib.hid hall
  clear hb hall HS5 hg
  have HRA6 := Lib.hid (rangeAt_below HRA0.out Hw6.out hbl)
  go_wp2_with (refine wpList_load_mid rfl 46 (.tmp 57) rfl b (off + x * 10) rfl CS.toList _ HRA6.out Try.underlying46 rfl (by rw [Array.length_toList, HSZ.out]; exact node_info) ?_)
  refine (HLT.out w6 Hw6.out).mono ?_
  rintro e w7 ⟨hb, v7, rfl, hown7⟩
  have Hw7 := Lib.hid (Hw6.out.trans (hb.mono Hw6.out.size))
  have HS7 := Lib.hid (HS6.out.below hb (Nat.le_refl _))
  have HL7 := Lib.hid (HL6.out.below hb)
  have HTX7 := Lib.hid hown7.rd
  obtain ⟨t1, t2, t3, rfl⟩ := slOf hown7
  clear hb hown7 HS6 HL6
  go_wp2_with fail
  refine (HKD.out w7).mono ?_
  rintro e wr ⟨rfl, hb⟩
  have Hwr := Lib.hid (Hw7.out.trans (hb.mono Hw7.out.size))
  have HSr := Lib.hid (HS7.out.below hb (Nat.le_refl _))
  have HLr := Lib.hid (HL7.out.below hb)
  clear hb HS7 HL7 HTX7
  obtain ⟨ul, hcl, hrl, _⟩ := HLr.out.row hxln rfl
  obtain ⟨ur, hcr, hrr, _⟩ := HLr.out.row hxrn rfl
  obtain ⟨q1, q2, q3, rfl⟩ := rdS hrl
  obtain ⟨r1, r2, r3, rfl⟩ := rdS hrr
  have hgl : g < wr.heap.size := HLr.out.lt
  have hbg : b < wr.heap.size := Nat.lt_of_lt_of_le hbl Hwr.out.size
  have HRA := Lib.hid (rangeAt_below HRA0.out Hwr.out hbl)
  have HPT := Lib.hid (fun (W : World) (hw : Below wr.heap.size wr W) => HPT0.out W (HNC.out W (Hwr.out.trans (hw.mono Hwr.out.size))) (.slice q1 q2 q3) (.slice r1 r2 r3) (hrl.below hw (Nat.le_refl _)) (hrr.below hw (Nat.le_refl _)))
  clear hrl hrr
  go_wp2_with fail
  refine wp_region_rel [fun v _ => v = .slice (some ⟨b, off, none⟩) n c, fun v _ => v = .int .i64 (x : Nat), fun v _ => v = .pointer (some ⟨b, off + x * 10, none⟩), fun v _ => v = .agg CS, fun v _ => v = .slice (some ⟨g, 0, none⟩) n n, fun v _ => v = .int .i64 (xl : Nat), fun v _ => v = .pointer (some ⟨g, xl, none⟩), fun v _ => v = .slice q1 q2 q3, fun v _ => v = .slice (some ⟨g, 0, none⟩) n n, fun v _ => v = .int .i64 (xr : Nat), fun v _ => v = .pointer (some ⟨g, xr, none⟩), fun v _ => v = .slice r1 r2 r3, fun v w' => ∃ u, v = .tuple #[u, .int .u8 0] ∧ Own w' wr.heap.size 5 u (bvs TX), fun v w' => ∃ u, v = .tuple #[u, .int .u8 0] ∧ Own w' wr.heap.size 5 u (bvs TX), fun v w' => Own w' wr.heap.size 5 v (bvs TX), fun v _ => v = .int .u8 0, fun v w' => Own w' wr.heap.size 5 v (bvs TX), fun v _ => v = .int .u8 0]
    [true, true, true, true, true, true, true, true, true, true, true, true, true, true, true, true, true, true] (fun x => Below wr.heap.size wr x) (fun x y => Below x.heap.size x y) none (by kernel_rfl) ?_ (⟨rfl, rfl, rfl, Nat.le_refl _, fun _ _ => rfl⟩) (fun x y _ h => h) (fun x y hx hs => hx.trans (hs.mono hx.size)) (by kernel_rfl) (by kernel_rfl) ?_ ?_
  · exact keepsR_n (fun _ _ _ h _ _ => h) (keepsR_n (fun _ _ _ h _ _ => h) (keepsR_n (fun _ _ _ h _ _ => h) (keepsR_n (fun _ _ _ h _ _ => h) (keepsR_n (fun _ _ _ h _ _ => h) (keepsR_n (fun _ _ _ h _ _ => h) (keepsR_n (fun _ _ _ h _ _ => h) (keepsR_n (fun _ _ _ h _ _ => h) (keepsR_n (fun _ _ _ h _ _ => h) (keepsR_n (fun _ _ _ h _ _ => h) (keepsR_n (fun _ _ _ h _ _ => h) (keepsR_n (fun _ _ _ h _ _ => h) (keepsR_n (fun v x y h hi hs => let ⟨u, e, h2⟩ := h; ⟨u, e, (fun v x y h _ hs => Own.below h hs (Nat.le_refl _)) u x y h2 hi hs⟩) (keepsR_n (fun v x y h hi hs => let ⟨u, e, h2⟩ := h; ⟨u, e, (fun v x y h _ hs => Own.below h hs (Nat.le_refl _)) u x y h2 hi hs⟩) (keepsR_n (fun v x y h _ hs => Own.below h hs (Nat.le_refl _)) (keepsR_n (fun _ _ _ h _ _ => h) (keepsR_n (fun v x y h _ hs => Own.below h hs (Nat.le_refl _)) (keepsR_n (fun _ _ _ h _ _ => h) (keepsR_nil))))))))))))))))))
  · refine .cons (owed7_go ?_) (.cons (owed7_go ?_) (.cons (owed7_go ?_) (.cons (owed7_go ?_) (.cons (owed7_go ?_) (.cons (owed7_go ?_) (.cons (owed7_go ?_) (.cons (owed7_go ?_) (.cons (owed7_go ?_) (.cons (owed7_go ?_) (.cons (owed7_go ?_) (.cons (owed7_go ?_) (.cons (owed7_go ?_) (.cons (owed7_go ?_) (.cons (owed7_go ?_) (.cons (owed7_go ?_) (.cons (owed7_go ?_) (.cons (owed7_go ?_) (.nil))))))))))))))))))
    · intro a wx hbx hq ho hf
      have hbx : Below wr.heap.size wr wx := hbx
      have hbq : Below wr.heap.size wr wx := hq (by kernel_rfl)
      clear hq
      refine ⟨rfl, ?_⟩
      intro K hK
      have e0 : a.tmps[0]?.getD undef = .slice (some ⟨b, off, none⟩) n c := ho 0 (by kernel_rfl)
      go_simp
      exact hK _ _ rfl (stepR_no rfl (Below.refl _ _))
    · intro a wx hbx hq ho hf
      have hbx : Below wr.heap.size wr wx := hbx
      have hbq : Below wr.heap.size wr wx := hq (by kernel_rfl)
      clear hq
      refine ⟨rfl, ?_⟩
      intro K hK
      have e0 : a.tmps[1]?.getD undef = .int .i64 (x : Nat) := ho 1 (by kernel_rfl)
      go_simp
      exact hK _ _ rfl (stepR_no rfl (Below.refl _ _))
    · intro a wx hbx hq ho hf
      have hbx : Below wr.heap.size wr wx := hbx
      have hbq : Below wr.heap.size wr wx := hq (by kernel_rfl)
      clear hq
      refine ⟨rfl, ?_⟩
      intro K hK
      have e0 : a.tmps[71]?.getD undef = .slice (some ⟨b, off, none⟩) n c := hf.1
      have e1 : a.tmps[72]?.getD undef = .int .i64 (x : Nat) := hf.2.1
      go_simp
      exact hK _ _ rfl (stepR_no rfl (Below.refl _ _))
    · intro a wx hbx hq ho hf
      have hbx : Below wr.heap.size wr wx := hbx
      have hbq : Below wr.heap.size wr wx := hq (by kernel_rfl)
      clear hq
      refine ⟨rfl, ?_⟩
      intro K hK
      have e0 : a.tmps[73]?.getD undef = .pointer (some ⟨b, off + x * 10, none⟩) := hf.1
      exact wp_load_mid 46 (.tmp 73) rfl b (off + x * 10) (evs e0) _ _ (rangeAt_below HRA.out hbx hbg) Try.underlying46 rfl (by rw [Array.length_toList, HSZ.out]; exact node_info) (hK _ _ rfl (stepR_no rfl (Below.refl _ _)))
    · intro a wx hbx hq ho hf
      have hbx : Below wr.heap.size wr wx := hbx
      have hbq : Below wr.heap.size wr wx := hq (by kernel_rfl)
      clear hq
      refine ⟨rfl, ?_⟩
      intro K hK
      have e0 : a.tmps[6]?.getD undef = .slice (some ⟨g, 0, none⟩) n n := ho 6 (by kernel_rfl)
      go_simp
      exact hK _ _ rfl (stepR_no rfl (Below.refl _ _))
    · intro a wx hbx hq ho hf
      have hbx : Below wr.heap.size wr wx := hbx
      have hbq : Below wr.heap.size wr wx := hq (by kernel_rfl)
      clear hq
      refine ⟨rfl, ?_⟩
      intro K hK
      have e0 : a.tmps[10]?.getD undef = .int .i64 (xl : Nat) := ho 10 (by kernel_rfl)
      go_simp
      exact hK _ _ rfl (stepR_no rfl (Below.refl _ _))
    · intro a wx hbx hq ho hf
      have hbx : Below wr.heap.size wr wx := hbx
      have hbq : Below wr.heap.size wr wx := hq (by kernel_rfl)
      clear hq
      refine ⟨rfl, ?_⟩
      intro K hK
      have e0 : a.tmps[75]?.getD undef = .slice (some ⟨g, 0, none⟩) n n := hf.1
      have e1 : a.tmps[76]?.getD undef = .int .i64 (xl : Nat) := hf.2.1
      go_simp
      exact hK _ _ rfl (stepR_no rfl (Below.refl _ _))
    · intro a wx hbx hq ho hf
      have hbx : Below wr.heap.size wr wx := hbx
      have hbq : Below wr.heap.size wr wx := hq (by kernel_rfl)
      clear hq
      refine ⟨rfl, ?_⟩
      intro K hK
      have e0 : a.tmps[77]?.getD undef = .pointer (some ⟨g, xl, none⟩) := hf.1
      have d1 := (hbx.cell (p := ⟨g, xl, none⟩) hgl).trans hcl
      go_simp
      exact hK _ _ rfl (stepR_no rfl (Below.refl _ _))
    · intro a wx hbx hq ho hf
      have hbx : Below wr.heap.size wr wx := hbx
      have hbq : Below wr.heap.size wr wx := hq (by kernel_rfl)
      clear hq
      refine ⟨rfl, ?_⟩
      intro K hK
      have e0 : a.tmps[6]?.getD undef = .slice (some ⟨g, 0, none⟩) n n := ho 6 (by kernel_rfl)
      go_simp
      exact hK _ _ rfl (stepR_no rfl (Below.refl _ _))
    · intro a wx hbx hq ho hf
      have hbx : Below wr.heap.size wr wx := hbx
      have hbq : Below wr.heap.size wr wx := hq (by kernel_rfl)
      clear hq
      refine ⟨rfl, ?_⟩
      intro K hK
      have e0 : a.tmps[11]?.getD undef = .int .i64 (xr : Nat) := ho 11 (by kernel_rfl)
      go_simp
      exact hK _ _ rfl (stepR_no rfl (Below.refl _ _))
    · intro a wx hbx hq ho hf
      have hbx : Below wr.heap.size wr wx := hbx
      have hbq : Below wr.heap.size wr wx := hq (by kernel_rfl)
      clear hq
      refine ⟨rfl, ?_⟩
      intro K hK
      have e0 : a.tmps[79]?.getD undef = .slice (some ⟨g, 0, none⟩) n n := hf.1
      have e1 : a.tmps[80]?.getD undef = .int .i64 (xr : Nat) := hf.2.1
      go_simp
      exact hK _ _ rfl (stepR_no rfl (Below.refl _ _))
    · intro a wx hbx hq ho hf
      have hbx : Below wr.heap.size wr wx := hbx
      have hbq : Below wr.heap.size wr wx := hq (by kernel_rfl)
      clear hq
      refine ⟨rfl, ?_⟩
      intro K hK
      have e0 : a.tmps[81]?.getD undef = .pointer (some ⟨g, xr, none⟩) := hf.1
      have d1 := (hbx.cell (p := ⟨g, xr, none⟩) hgl).trans hcr
      go_simp
      exact hK _ _ rfl (stepR_no rfl (Below.refl _ _))
    · intro a wx hbx hq ho hf
      have hbx : Below wr.heap.size wr wx := hbx
      have hbq : Below wr.heap.size wr wx := hq (by kernel_rfl)
      clear hq
      refine ⟨rfl, ?_⟩
      intro K hK
      have e0 : a.tmps[74]?.getD undef = .agg CS := hf.1
      have e1 : a.tmps[78]?.getD undef = .slice q1 q2 q3 := hf.2.1
      have e2 : a.tmps[82]?.getD undef = .slice r1 r2 r3 := hf.2.2.1
      go_simp
      refine (HPT.out wx hbx).mono ?_
      rintro e w2 ⟨hb2, v9, rfl, hown9⟩
      exact hK _ _ ⟨_, rfl, hown9.mono hbx.size⟩ (stepR_no rfl hb2)
    · intro a wx hbx hq ho hf
      have hbx : Below wr.heap.size wr wx := hbx
      have hbq : Below wr.heap.size wr wx := hq (by kernel_rfl)
      clear hq
      refine ⟨rfl, ?_⟩
      intro K hK
      have o0 : ∃ u, (a.tmps[83]?.getD undef) = .tuple #[u, .int .u8 0] ∧ Own wx wr.heap.size 5 u (bvs TX) := hf.1
      obtain ⟨v0, hv0⟩ : ∃ v, v = a.tmps[83]?.getD undef := ⟨_, rfl⟩
      rw [← hv0] at o0
      have e0 := hv0.symm
      clear hv0
      go_simp
      exact hK _ _ o0 (stepR_no rfl (Below.refl _ _))
    · intro a wx hbx hq ho hf
      have hbx : Below wr.heap.size wr wx := hbx
      have hbq : Below wr.heap.size wr wx := hq (by kernel_rfl)
      clear hq
      refine ⟨rfl, ?_⟩
      intro K hK
      have o0 : ∃ u, (a.tmps[70]?.getD undef) = .tuple #[u, .int .u8 0] ∧ Own wx wr.heap.size 5 u (bvs TX) := hf.1
      obtain ⟨v0, hv0⟩ : ∃ v, v = a.tmps[70]?.getD undef := ⟨_, rfl⟩
      rw [← hv0] at o0
      have e0 := hv0.symm
      clear hv0
      obtain ⟨u, rfl, o1⟩ := o0
      go_simp
      exact hK _ _ o1 (stepR_no rfl (Below.refl _ _))
    · intro a wx hbx hq ho hf
      have hbx : Below wr.heap.size wr wx := hbx
      have hbq : Below wr.heap.size wr wx := hq (by kernel_rfl)
      clear hq
      refine ⟨rfl, ?_⟩
      intro K hK
      have o0 : ∃ u, (a.tmps[70]?.getD undef) = .tuple #[u, .int .u8 0] ∧ Own wx wr.heap.size 5 u (bvs TX) := hf.1
      obtain ⟨v0, hv0⟩ : ∃ v, v = a.tmps[70]?.getD undef := ⟨_, rfl⟩
      rw [← hv0] at o0
      have e0 := hv0.symm
      clear hv0
      obtain ⟨u, rfl, o1⟩ := o0
      go_simp
      exact hK _ _ rfl (stepR_no rfl (Below.refl _ _))
    · intro a wx hbx hq ho hf
      have hbx : Below wr.heap.size wr wx := hbx
      have hbq : Below wr.heap.size wr wx := hq (by kernel_rfl)
      clear hq
      refine ⟨rfl, ?_⟩
      intro K hK
      have o0 : Own wx wr.heap.size 5 (a.tmps[84]?.getD undef) (bvs TX) := hf.1
      obtain ⟨v0, hv0⟩ : ∃ v, v = a.tmps[84]?.getD undef := ⟨_, rfl⟩
      rw [← hv0] at o0
      have e0 := hv0.symm
      clear hv0
      go_simp
      exact hK _ _ o0 (stepR_no rfl (Below.refl _ _))
    · intro a wx hbx hq ho hf
      have hbx : Below wr.heap.size wr wx := hbx
      have hbq : Below wr.heap.size wr wx := hq (by kernel_rfl)
      clear hq
      refine ⟨rfl, ?_⟩
      intro K hK
      have e0 : a.tmps[85]?.getD undef = .int .u8 0 := hf.1
      go_simp
      exact hK _ _ rfl (stepR_no rfl (Below.refl _ _))
  · rintro f w9 hb9 hfin
    have hb9 : Below wr.heap.size wr w9 := hb9
    have S8 : Own w9 wr.heap.size 5 (f 8) (bvs TX) := hfin.2.2.2.2.2.2.2.2.2.2.2.2.2.2.2.2.1
    have S9 : f 9 = .int .u8 0 := hfin.2.2.2.2.2.2.2.2.2.2.2.2.2.2.2.2.2.1
    clear hfin
    simp only [frameOf, dstsOf, zipF, List.filterMap_cons, List.filterMap_nil, List.contains_cons, List.contains_nil, Nat.reduceBEq, Nat.reduceAdd, Bool.or_false, Bool.or_true, cond_true, cond_false]
    obtain ⟨u8, hu8⟩ : ∃ u, u = f 8 := ⟨_, rfl⟩
    rw [← hu8] at S8 ⊢
    clear hu8
    rw [S9]
    clear S9
    have HB9 := Lib.hid (Hwr.out.trans (hb9.mono Hwr.out.size))
    have Hw9 := HB9
    have HS9 := Lib.hid (HSr.out.below hb9 (Nat.le_refl _))
    have HL9 := Lib.hid (HLr.out.below hb9)
    have HTX9 := Lib.hid S8.rd
    obtain ⟨t1', t2', t3', rfl⟩ := slOf S8
    clear S8 hb9 HSr HLr hcl hcr hgl hbg HRA HPT Hwr HB9
    go_wp2_with fail
    refine (HWI.out w9 Hw9.out).mono ?_
    rintro e wr ⟨uh, rfl, hru, hb⟩
    have Hwr := Lib.hid (Hw9.out.trans (hb.mono Hw9.out.size))
    have HSr := Lib.hid (HS9.out.below hb (Nat.le_refl _))
    have HLr := Lib.hid (HL9.out.below hb)
    have HTXr := Lib.hid (HTX9.out.below hb (Nat.le_refl _))
    have HUr := Lib.hid hru
    obtain ⟨h1, h2, h3, rfl⟩ := rdS hru
    obtain ⟨uk, hci, hri, _⟩ := HLr.out.row hxn rfl
    have HKr := Lib.hid hri
    obtain ⟨k1, k2, k3, rfl⟩ := rdS hri
    have hgl : g < wr.heap.size := HLr.out.lt
    have HDG := Lib.hid (fun (W : World) (hw : Below wr.heap.size wr W) => HDGX.out _ W (HTXr.out.below hw (Nat.le_refl _)))
    have HS1 := Lib.hid (fun (W : World) (hw : Below wr.heap.size wr W) (v' : Value) (hv' : Rd W v' (bvs HX)) => HSD.out W _ v' (by have := HKr.out.below hw (Nat.le_refl _); rw [HXE.out] at this; exact this) hv')
    have HS2 := Lib.hid (fun (W : World) (hw : Below wr.heap.size wr W) => HSD.out W _ _ (HUr.out.below hw (Nat.le_refl _)) (by have := HKr.out.below hw (Nat.le_refl _); rw [HXE.out] at this; exact this))
    have HTS := Lib.hid (fun (W : World) (hw : Below wr.heap.size wr W) => HTSX.out _ W (Hwr.out.trans (hw.mono Hwr.out.size)) (HSr.out.below hw (Nat.le_refl _)))
    clear hb hru hri HS9 HL9 HTX9
    go_wp2_with fail
    refine wp_region_rel [fun v _ => v = .int .u8 0, fun v _ => v = .int .i64 0, fun v _ => v = .int .u8 0, fun v _ => v = .int .i64 0, fun v _ => v = .int .i64 0, fun v _ => v = .bool true, fun v _ => v = .bool true, fun v _ => v = .slice (some ⟨g, 0, none⟩) n n, fun v _ => v = .int .i64 (x : Nat), fun v _ => v = .pointer (some ⟨g, x, none⟩), fun v _ => v = .slice k1 k2 k3, fun v _ => v = .slice t1' t2' t3', fun v w' => Own w' wr.heap.size 5 v (bvs HX), fun v _ => v = .bool true, fun v _ => v = .bool true, fun v _ => v = .bool true, fun v _ => v = .slice h1 h2 h3, fun v _ => v = .slice (some ⟨g, 0, none⟩) n n, fun v _ => v = .int .i64 (x : Nat), fun v _ => v = .pointer (some ⟨g, x, none⟩), fun v _ => v = .slice k1 k2 k3, fun v _ => v = .bool true, fun v _ => v = .bool true, fun v _ => v = .bool true, fun v _ => v = .slice (some ⟨b, off, none⟩) n c, fun v _ => v = .slice s1 s2 s3, fun v _ => v = .bool true, fun v _ => v = .bool true, fun v _ => v = .bool true]
      [true, true, true, true, true, true, true, true, true, true, true, true, true, true, true, true, true, true, true, true, true, true, true, true, true, true, true, true, true] (fun x => Below wr.heap.size wr x) (fun x y => Below x.heap.size x y) none (by kernel_rfl) ?_ (⟨rfl, rfl, rfl, Nat.le_refl _, fun _ _ => rfl⟩) (fun x y _ h => h) (fun x y hx hs => hx.trans (hs.mono hx.size)) (by kernel_rfl) (by kernel_rfl) ?_ ?_
    · exact keepsR_n (fun _ _ _ h _ _ => h) (keepsR_n (fun _ _ _ h _ _ => h) (keepsR_n (fun _ _ _ h _ _ => h) (keepsR_n (fun _ _ _ h _ _ => h) (keepsR_n (fun _ _ _ h _ _ => h) (keepsR_n (fun _ _ _ h _ _ => h) (keepsR_n (fun _ _ _ h _ _ => h) (keepsR_n (fun _ _ _ h _ _ => h) (keepsR_n (fun _ _ _ h _ _ => h) (keepsR_n (fun _ _ _ h _ _ => h) (keepsR_n (fun _ _ _ h _ _ => h) (keepsR_n (fun _ _ _ h _ _ => h) (keepsR_n (fun v x y h _ hs => Own.below h hs (Nat.le_refl _)) (keepsR_n (fun _ _ _ h _ _ => h) (keepsR_n (fun _ _ _ h _ _ => h) (keepsR_n (fun _ _ _ h _ _ => h) (keepsR_n (fun _ _ _ h _ _ => h) (keepsR_n (fun _ _ _ h _ _ => h) (keepsR_n (fun _ _ _ h _ _ => h) (keepsR_n (fun _ _ _ h _ _ => h) (keepsR_n (fun _ _ _ h _ _ => h) (keepsR_n (fun _ _ _ h _ _ => h) (keepsR_n (fun _ _ _ h _ _ => h) (keepsR_n (fun _ _ _ h _ _ => h) (keepsR_n (fun _ _ _ h _ _ => h) (keepsR_n (fun _ _ _ h _ _ => h) (keepsR_n (fun _ _ _ h _ _ => h) (keepsR_n (fun _ _ _ h _ _ => h) (keepsR_n (fun _ _ _ h _ _ => h) (keepsR_nil)))))))))))))))))))))))))))))
    · refine .cons (owed7_go ?_) (.cons (owed7_go ?_) (.cons (owed7_go ?_) (.cons (owed7_go ?_) (.cons (owed7_go ?_) (.cons (owed7_go ?_) (.cons (owed7_go ?_) (.cons (owed7_go ?_) (.cons (owed7_go ?_) (.cons (owed7_go ?_) (.cons (owed7_go ?_) (.cons (owed7_go ?_) (.cons (owed7_go ?_) (.cons (owed7_go ?_) (.cons (owed7_go ?_) (.cons (owed7_go ?_) (.cons (owed7_go ?_) (.cons (owed7_go ?_) (.cons (owed7_go ?_) (.cons (owed7_go ?_) (.cons (owed7_go ?_) (.cons (owed7_go ?_) (.cons (owed7_go ?_) (.cons (owed7_go ?_) (.cons (owed7_go ?_) (.cons (owed7_go ?_) (.cons (owed7_go ?_) (.cons (owed7_go ?_) (.cons (owed7_go ?_) (.nil)))))))))))))))))))))))))))))
      · intro a wx hbx hq ho hf
        have hbx : Below wr.heap.size wr wx := hbx
        have hbq : Below wr.heap.size wr wx := hq (by kernel_rfl)
        clear hq
        refine ⟨rfl, ?_⟩
        intro K hK
        have e0 : a.tmps[9]?.getD undef = .int .u8 0 := ho 9 (by kernel_rfl)
        go_simp
        exact hK _ _ rfl (stepR_no rfl (Below.refl _ _))
      · intro a wx hbx hq ho hf
        have hbx : Below wr.heap.size wr wx := hbx
        have hbq : Below wr.heap.size wr wx := hq (by kernel_rfl)
        clear hq
        refine ⟨rfl, ?_⟩
        intro K hK
        have e0 : a.tmps[92]?.getD undef = .int .u8 0 := hf.1
        have gw1 : IntKind.i64.wrap (0) = 0 := by rw [IntKind.wrap_i64]; omega
        go_simp
        exact hK _ _ rfl (stepR_no rfl (Below.refl _ _))
      · intro a wx hbx hq ho hf
        have hbx : Below wr.heap.size wr wx := hbx
        have hbq : Below wr.heap.size wr wx := hq (by kernel_rfl)
        clear hq
        refine ⟨rfl, ?_⟩
        intro K hK
        have e0 : a.tmps[13]?.getD undef = .int .u8 0 := ho 13 (by kernel_rfl)
        go_simp
        exact hK _ _ rfl (stepR_no rfl (Below.refl _ _))
      · intro a wx hbx hq ho hf
        have hbx : Below wr.heap.size wr wx := hbx
        have hbq : Below wr.heap.size wr wx := hq (by kernel_rfl)
        clear hq
        refine ⟨rfl, ?_⟩
        intro K hK
        have e0 : a.tmps[94]?.getD undef = .int .u8 0 := hf.1
        have gw1 : IntKind.i64.wrap (0) = 0 := by rw [IntKind.wrap_i64]; omega
        go_simp
        exact hK _ _ rfl (stepR_no rfl (Below.refl _ _))
      · intro a wx hbx hq ho hf
        have hbx : Below wr.heap.size wr wx := hbx
        have hbq : Below wr.heap.size wr wx := hq (by kernel_rfl)
        clear hq
        refine ⟨rfl, ?_⟩
        intro K hK
        have e0 : a.tmps[93]?.getD undef = .int .i64 0 := hf.1
        have e1 : a.tmps[95]?.getD undef = .int .i64 0 := hf.2.1
        have gw1 : IntKind.i64.wrap (0) = 0 := by rw [IntKind.wrap_i64]; omega
        go_simp
        exact hK _ _ rfl (stepR_no rfl (Below.refl _ _))
      · intro a wx hbx hq ho hf
        have hbx : Below wr.heap.size wr wx := hbx
        have hbq : Below wr.heap.size wr wx := hq (by kernel_rfl)
        clear hq
        refine ⟨rfl, ?_⟩
        intro K hK
        have e0 : a.tmps[96]?.getD undef = .int .i64 0 := hf.1
        go_simp
        exact hK _ _ rfl (stepR_no rfl (Below.refl _ _))
      · intro a wx hbx hq ho hf
        have hbx : Below wr.heap.size wr wx := hbx
        have hbq : Below wr.heap.size wr wx := hq (by kernel_rfl)
        clear hq
        refine ⟨rfl, ?_⟩
        intro K hK
        have e0 : a.tmps[97]?.getD undef = .bool true := hf.1
        go_simp
        exact hK _ _ rfl (stepR_no rfl (Below.refl _ _))
      · intro a wx hbx hq ho hf
        have hbx : Below wr.heap.size wr wx := hbx
        have hbq : Below wr.heap.size wr wx := hq (by kernel_rfl)
        clear hq
        refine ⟨wanted_slot (j := 6) (b := true) (s := 98) rfl rfl rfl (hf.1), ?_⟩
        intro K hK
        have e0 : a.tmps[6]?.getD undef = .slice (some ⟨g, 0, none⟩) n n := ho 6 (by kernel_rfl)
        go_simp
        exact hK _ _ rfl (stepR_no rfl (Below.refl _ _))
      · intro a wx hbx hq ho hf
        have hbx : Below wr.heap.size wr wx := hbx
        have hbq : Below wr.heap.size wr wx := hq (by kernel_rfl)
        clear hq
        refine ⟨wanted_slot (j := 6) (b := true) (s := 98) rfl rfl rfl (hf.1), ?_⟩
        intro K hK
        have e0 : a.tmps[1]?.getD undef = .int .i64 (x : Nat) := ho 1 (by kernel_rfl)
        go_simp
        exact hK _ _ rfl (stepR_no rfl (Below.refl _ _))
      · intro a wx hbx hq ho hf
        have hbx : Below wr.heap.size wr wx := hbx
        have hbq : Below wr.heap.size wr wx := hq (by kernel_rfl)
        clear hq
        refine ⟨wanted_slot (j := 6) (b := true) (s := 98) rfl rfl rfl (hf.2.2.1), ?_⟩
        intro K hK
        have e0 : a.tmps[99]?.getD undef = .slice (some ⟨g, 0, none⟩) n n := hf.1
        have e1 : a.tmps[100]?.getD undef = .int .i64 (x : Nat) := hf.2.1
        go_simp
        exact hK _ _ rfl (stepR_no rfl (Below.refl _ _))
      · intro a wx hbx hq ho hf
        have hbx : Below wr.heap.size wr wx := hbx
        have hbq : Below wr.heap.size wr wx := hq (by kernel_rfl)
        clear hq
        refine ⟨wanted_slot (j := 6) (b := true) (s := 98) rfl rfl rfl (hf.2.1), ?_⟩
        intro K hK
        have e0 : a.tmps[101]?.getD undef = .pointer (some ⟨g, x, none⟩) := hf.1
        have d1 := (hbx.cell (p := ⟨g, x, none⟩) hgl).trans hci
        go_simp
        exact hK _ _ rfl (stepR_no rfl (Below.refl _ _))
      · intro a wx hbx hq ho hf
        have hbx : Below wr.heap.size wr wx := hbx
        have hbq : Below wr.heap.size wr wx := hq (by kernel_rfl)
        clear hq
        refine ⟨wanted_slot (j := 6) (b := true) (s := 98) rfl rfl rfl (hf.1), ?_⟩
        intro K hK
        have e0 : a.tmps[8]?.getD undef = .slice t1' t2' t3' := ho 8 (by kernel_rfl)
        go_simp
        exact hK _ _ rfl (stepR_no rfl (Below.refl _ _))
      · intro a wx hbx hq ho hf
        have hbx : Below wr.heap.size wr wx := hbx
        have hbq : Below wr.heap.size wr wx := hq (by kernel_rfl)
        clear hq
        refine ⟨wanted_slot (j := 6) (b := true) (s := 98) rfl rfl rfl (hf.2.1), ?_⟩
        intro K hK
        have e0 : a.tmps[103]?.getD undef = .slice t1' t2' t3' := hf.1
        go_simp
        refine (HDG.out wx hbx).mono ?_
        rintro e w2 ⟨v9, rfl, hown, hb2⟩
        exact hK _ _ (hown.mono hbx.size) (stepR_no rfl hb2)
      · intro a wx hbx hq ho hf
        have hbx : Below wr.heap.size wr wx := hbx
        have hbq : Below wr.heap.size wr wx := hq (by kernel_rfl)
        clear hq
        refine ⟨wanted_slot (j := 6) (b := true) (s := 98) rfl rfl rfl (hf.2.2.2.1), ?_⟩
        intro K hK
        have e0 : a.tmps[102]?.getD undef = .slice k1 k2 k3 := hf.1
        have o1 : Own wx wr.heap.size 5 (a.tmps[104]?.getD undef) (bvs HX) := hf.2.1
        obtain ⟨v1, hv1⟩ : ∃ v, v = a.tmps[104]?.getD undef := ⟨_, rfl⟩
        rw [← hv1] at o1
        have e1 := hv1.symm
        clear hv1
        go_simp
        refine (HS1.out wx hbx v1 o1.rd).mono ?_
        rintro e w2 ⟨rfl, n9, rfl⟩
        exact hK _ _ rfl (stepR_no rfl (below_drewN' (Below.refl _ _) _))
      · intro a wx hbx hq ho hf
        have hbx : Below wr.heap.size wr wx := hbx
        have hbq : Below wr.heap.size wr wx := hq (by kernel_rfl)
        clear hq
        refine ⟨rfl, ?_⟩
        intro K hK
        have e0 : a.tmps[98]?.getD undef = .bool true := hf.1
        have e1 : a.tmps[105]?.getD undef = .bool true := hf.2.1
        go_simp
        exact hK _ _ rfl (stepR_no rfl (Below.refl _ _))
      · intro a wx hbx hq ho hf
        have hbx : Below wr.heap.size wr wx := hbx
        have hbq : Below wr.heap.size wr wx := hq (by kernel_rfl)
        clear hq
        refine ⟨rfl, ?_⟩
        intro K hK
        have e0 : a.tmps[106]?.getD undef = .bool true := hf.1
        go_simp
        exact hK _ _ rfl (stepR_no rfl (Below.refl _ _))
      · intro a wx hbx hq ho hf
        have hbx : Below wr.heap.size wr wx := hbx
        have hbq : Below wr.heap.size wr wx := hq (by kernel_rfl)
        clear hq
        refine ⟨wanted_slot (j := 15) (b := true) (s := 107) rfl rfl rfl (hf.1), ?_⟩
        intro K hK
        have e0 : a.tmps[12]?.getD undef = .slice h1 h2 h3 := ho 12 (by kernel_rfl)
        go_simp
        exact hK _ _ rfl (stepR_no rfl (Below.refl _ _))
      · intro a wx hbx hq ho hf
        have hbx : Below wr.heap.size wr wx := hbx
        have hbq : Below wr.heap.size wr wx := hq (by kernel_rfl)
        clear hq
        refine ⟨wanted_slot (j := 15) (b := true) (s := 107) rfl rfl rfl (hf.1), ?_⟩
        intro K hK
        have e0 : a.tmps[6]?.getD undef = .slice (some ⟨g, 0, none⟩) n n := ho 6 (by kernel_rfl)
        go_simp
        exact hK _ _ rfl (stepR_no rfl (Below.refl _ _))
      · intro a wx hbx hq ho hf
        have hbx : Below wr.heap.size wr wx := hbx
        have hbq : Below wr.heap.size wr wx := hq (by kernel_rfl)
        clear hq
        refine ⟨wanted_slot (j := 15) (b := true) (s := 107) rfl rfl rfl (hf.1), ?_⟩
        intro K hK
        have e0 : a.tmps[1]?.getD undef = .int .i64 (x : Nat) := ho 1 (by kernel_rfl)
        go_simp
        exact hK _ _ rfl (stepR_no rfl (Below.refl _ _))
      · intro a wx hbx hq ho hf
        have hbx : Below wr.heap.size wr wx := hbx
        have hbq : Below wr.heap.size wr wx := hq (by kernel_rfl)
        clear hq
        refine ⟨wanted_slot (j := 15) (b := true) (s := 107) rfl rfl rfl (hf.2.2.1), ?_⟩
        intro K hK
        have e0 : a.tmps[109]?.getD undef = .slice (some ⟨g, 0, none⟩) n n := hf.1
        have e1 : a.tmps[110]?.getD undef = .int .i64 (x : Nat) := hf.2.1
        go_simp
        exact hK _ _ rfl (stepR_no rfl (Below.refl _ _))
      · intro a wx hbx hq ho hf
        have hbx : Below wr.heap.size wr wx := hbx
        have hbq : Below wr.heap.size wr wx := hq (by kernel_rfl)
        clear hq
        refine ⟨wanted_slot (j := 15) (b := true) (s := 107) rfl rfl rfl (hf.2.1), ?_⟩
        intro K hK
        have e0 : a.tmps[111]?.getD undef = .pointer (some ⟨g, x, none⟩) := hf.1
        have d1 := (hbx.cell (p := ⟨g, x, none⟩) hgl).trans hci
        go_simp
        exact hK _ _ rfl (stepR_no rfl (Below.refl _ _))
      · intro a wx hbx hq ho hf
        have hbx : Below wr.heap.size wr wx := hbx
        have hbq : Below wr.heap.size wr wx := hq (by kernel_rfl)
        clear hq
        refine ⟨wanted_slot (j := 15) (b := true) (s := 107) rfl rfl rfl (hf.2.2.1), ?_⟩
        intro K hK
        have e0 : a.tmps[108]?.getD undef = .slice h1 h2 h3 := hf.1
        have e1 : a.tmps[112]?.getD undef = .slice k1 k2 k3 := hf.2.1
        go_simp
        refine (HS2.out wx hbx).mono ?_
        rintro e w2 ⟨rfl, n9, rfl⟩
        exact hK _ _ rfl (stepR_no rfl (below_drewN' (Below.refl _ _) _))
      · intro a wx hbx hq ho hf
        have hbx : Below wr.heap.size wr wx := hbx
        have hbq : Below wr.heap.size wr wx := hq (by kernel_rfl)
        clear hq
        refine ⟨rfl, ?_⟩
        intro K hK
        have e0 : a.tmps[107]?.getD undef = .bool true := hf.1
        have e1 : a.tmps[113]?.getD undef = .bool true := hf.2.1
        go_simp
        exact hK _ _ rfl (stepR_no rfl (Below.refl _ _))
      · intro a wx hbx hq ho hf
        have hbx : Below wr.heap.size wr wx := hbx
        have hbq : Below wr.heap.size wr wx := hq (by kernel_rfl)
        clear hq
        refine ⟨rfl, ?_⟩
        intro K hK
        have e0 : a.tmps[114]?.getD undef = .bool true := hf.1
        go_simp
        exact hK _ _ rfl (stepR_no rfl (Below.refl _ _))
      · intro a wx hbx hq ho hf
        have hbx : Below wr.heap.size wr wx := hbx
        have hbq : Below wr.heap.size wr wx := hq (by kernel_rfl)
        clear hq
        refine ⟨wanted_slot (j := 23) (b := true) (s := 115) rfl rfl rfl (hf.1), ?_⟩
        intro K hK
        have e0 : a.tmps[0]?.getD undef = .slice (some ⟨b, off, none⟩) n c := ho 0 (by kernel_rfl)
        go_simp
        exact hK _ _ rfl (stepR_no rfl (Below.refl _ _))
      · intro a wx hbx hq ho hf
        have hbx : Below wr.heap.size wr wx := hbx
        have hbq : Below wr.heap.size wr wx := hq (by kernel_rfl)
        clear hq
        refine ⟨wanted_slot (j := 23) (b := true) (s := 115) rfl rfl rfl (hf.1), ?_⟩
        intro K hK
        have e0 : a.tmps[5]?.getD undef = .slice s1 s2 s3 := ho 5 (by kernel_rfl)
        go_simp
        exact hK _ _ rfl (stepR_no rfl (Below.refl _ _))
      · intro a wx hbx hq ho hf
        have hbx : Below wr.heap.size wr wx := hbx
        have hbq : Below wr.heap.size wr wx := hq (by kernel_rfl)
        clear hq
        refine ⟨wanted_slot (j := 23) (b := true) (s := 115) rfl rfl rfl (hf.2.2.1), ?_⟩
        intro K hK
        have e0 : a.tmps[116]?.getD undef = .slice (some ⟨b, off, none⟩) n c := hf.1
        have e1 : a.tmps[117]?.getD undef = .slice s1 s2 s3 := hf.2.1
        go_simp
        refine (HTS.out wx hbx).mono ?_
        rintro e w2 ⟨rfl, hb2⟩
        exact hK _ _ rfl (stepR_no rfl hb2)
      · intro a wx hbx hq ho hf
        have hbx : Below wr.heap.size wr wx := hbx
        have hbq : Below wr.heap.size wr wx := hq (by kernel_rfl)
        clear hq
        refine ⟨rfl, ?_⟩
        intro K hK
        have e0 : a.tmps[115]?.getD undef = .bool true := hf.1
        have e1 : a.tmps[118]?.getD undef = .bool true := hf.2.1
        go_simp
        exact hK _ _ rfl (stepR_no rfl (Below.refl _ _))
      · intro a wx hbx hq ho hf
        have hbx : Below wr.heap.size wr wx := hbx
        have hbq : Below wr.heap.size wr wx := hq (by kernel_rfl)
        clear hq
        refine ⟨rfl, ?_⟩
        intro K hK
        have e0 : a.tmps[119]?.getD undef = .bool true := hf.1
        go_simp
        exact hK _ _ rfl (stepR_no rfl (Below.refl _ _))
    · rintro f w9 hb9 hfin
      have hb9 : Below wr.heap.size wr w9 := hb9
      have S4 : f 4 = .bool true := hfin.2.2.2.2.2.2.2.2.2.2.2.2.2.2.2.2.2.2.2.2.2.2.2.2.2.2.2.2.1
      clear hfin
      simp only [frameOf, dstsOf, zipF, List.filterMap_cons, List.filterMap_nil, List.contains_cons, List.contains_nil, Nat.reduceBEq, Nat.reduceAdd, Bool.or_false, Bool.or_true, cond_true, cond_false]
      rw [S4]
      clear S4
      have HB9 := Hwr.out.trans (hb9.mono Hwr.out.size)
      go_wp2_with fail
      go_ret
      exact ⟨rfl, HB9⟩
theorem hashParts_walk {w : World} (v : Value) (t : List NodeD) (x : Int) (hop : TreeR w v t ∧ TreeOk t) (hx : -9223372036854775808 ≤ x ∧ x ≤ 9223372036854775807) :
    Calls Try.prog 6 #[v, .int .i64 x] w fun e w' => e = .returned (.bool true) ∧ Below w.heap.size w w' := by
  by_cases hno : smallT t = false ∨ rightT t = false ∨ x < 0 ∨ (t.length : Int) ≤ x
  · exact hashParts_off v t x hop hx hno
  · have hs : smallT t = true := by cases h : smallT t with | true => rfl | false => exact absurd (.inl h) hno
    have hr : rightT t = true := by cases h : rightT t with | true => rfl | false => exact absurd (.inr (.inl h)) hno
    have hx2 : ¬ (x < 0 ∨ (t.length : Int) ≤ x) := fun h => hno (.inr (.inr h))
    obtain ⟨y, rfl⟩ : ∃ y : Nat, x = (y : Int) := ⟨x.toNat, by omega⟩
    rcases Nat.mod_two_eq_zero_or_one y with hev | hod
    · exact hashParts_even v t y hop.1 hop.2 hs hr (by omega) hev
    · exact hashParts_odd v t y hop.1 hop.2 hs hr (by omega) hod
end Go.Proofs.Ytohldijomcljkaa
