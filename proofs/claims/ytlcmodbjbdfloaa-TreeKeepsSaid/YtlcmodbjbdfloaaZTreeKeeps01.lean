/- Walks: tree.blanked, Update, Remove. -/
import Derived.Test.YtlcmodbjbdfloaaZTreeKeeps00
import Derived.Test.YtlcmodbjbdfloaaZTreeAdds40
import Derived.Test.YtlcmodbjbdfloaaZTreeAdds43
import Derived.Test.YtlcmodbjbdfloaaZTreeAdds20
import Derived.Test.YtlcmodbjbdfloaaZTreeAdds41
import Derived.Test.YtlcmodbjbdfloaaZTreeAdds36
import Derived.Test.YtlcmodbjbdfloaaZTreeAdds42
import Derived.Test.YtlcmodbjbdfloaaZTreeAdds23
namespace Go.Proofs.Ytlcmodbjbdfloaa
open Go.RowKit WalkM WireM
set_option linter.unusedVariables false
def zeroC : Array Value := #[.int .u8 0, .slice none 0 0, .slice none 0 0, .slice none 0 0, .int .u8 0, .slice none 0 0, .slice none 0 0, .slice none 0 0, .slice none 0 0, .slice none 0 0]
theorem zeroC_size : zeroC.size = 10 := rfl
theorem zeroC_one : zeroC.all (·.oneCell') = true := by rw [← Array.all_toList]; rfl
theorem WT.blank {vp : Value} {w W : World} {g cap n : Nat} {F : Nat → NodeD} (h : WT vp w W g cap n F) (hz : ∀ k, vp.ownBlock = some k → k < W.heap.size) {x : Nat} (hx : x < n) : WT vp w (W.setCells g (x * 10) zeroC.toList) g cap n (fun y => if y = x then noNodeD else F y) :=
  h.node hz (Below.refl _ _) hx (noNode_o W _)
theorem blank_step {t : List NodeD} {vp : Value} {w W : World} {g cap d i r m : Nat} (hd : d ≤ 16) (hm : m + 1 = 2 ^ (d + 1)) (hi : 2 * i + 1 < 2 ^ (d + 1)) (hr : r < d) (h : WT vp w W g cap m (blankR t i r)) (hz : ∀ k, vp.ownBlock = some k → k < W.heap.size) :
    WT vp w (W.setCells g (anc (2 * i) (r + 1) * 10) zeroC.toList) g cap m (blankR t i (r + 1)) := by
  have ha := anc_in hd hi (show r + 1 ≤ d by omega)
  exact (h.blank hz (x := anc (2 * i) (r + 1)) (by omega)).congr fun y hy => blankR_step t hd hi hr (by omega)
theorem blank_end {t : List NodeD} {vp : Value} {w W : World} {g cap d i m : Nat} (hd : d ≤ 16) (hm : m + 1 = 2 ^ (d + 1)) (h : WT vp w W g cap m (blankR t i d)) : WT (.slice none 0 0) w W g cap m (blankF t i) :=
  (h.congr fun y hy => (blankR_end t hd (x := y) (by omega)).symm).see fun k hk => by simp [Value.ownBlock] at hk
set_option maxRecDepth 100000 in
set_option maxHeartbeats 8000000 in
theorem blanked_any (v : Value) (t : List NodeD) (i d : Nat) (w : World) (h : TreeR w v t) (hs : medT t = true) (hlen : t.length + 1 = 2 * 2 ^ d) (hd : d ≤ 15) (hi : i < 2 ^ d) :
    Calls Try.prog 45 #[v, .int .i64 (i : Nat)] w fun e w' => ∃ g cap, e = .returned (.slice (some ⟨g, 0, none⟩) t.length cap) ∧ cap ≤ maxLen ∧ t.length ≤ cap ∧ WT (.slice none 0 0) w w' g cap t.length (blankF t i) := by
  have h17 := two_pow_le (show d + 1 ≤ 16 by omega)
  have e2 : 2 ^ (d + 1) = 2 * 2 ^ d := by rw [Nat.pow_succ]; omega
  have hmed := medT_len hs
  have hNN : leavesN t.length = 2 ^ d := leavesN_pow (by omega) hlen
  have hi1 : 2 * i + 1 < 2 ^ (d + 1) := by omega
  have htp : 0 < t.length := by have := pow_pos' d; omega
  have CP := treeCopy_med v t w h hs
  have PA := fun (W : World) => path_any (2 * i) d (by omega) hi1 W
  rw [lev_even (by omega) (by omega), Nat.sub_zero] at PA
  have SLV := fun (W : World) (v1 : Value) (h1 : TreeO W w.heap.size v1 t) => h1.sl (by omega)
  have STA := fun (W : World) (g cap : Nat) (h1 : TreeO W w.heap.size (.slice (some ⟨g, 0, none⟩) t.length cap) t) (hb : Below w.heap.size w W) => (WT.of (h1.f.congr fun x _ => blankR_zero t i x) hb)
  have STP := fun (vp : Value) (W : World) (g cap r : Nat) (hr : r < d) (h1 : WT vp w W g cap t.length (blankR t i r)) (hz : ∀ k, vp.ownBlock = some k → k < W.heap.size) => blank_step (by omega) (by omega) hi1 hr h1 hz
  have FIN := fun (vp : Value) (W : World) (g cap : Nat) (h1 : WT vp w W g cap t.length (blankR t i d)) => blank_end (by omega) (by omega) h1
  have AIN := fun (r : Nat) (hr : r < d) => (show anc (2 * i) (r + 1) < t.length by
    have ha := anc_in (d := d) (by omega) hi1 (show r + 1 ≤ d by omega)
    omega)
  have PLG := fun (r : Nat) (hr1 : r < d) => (show (nvs (ups (2 * i) 0 d))[r]? = some (.int .i64 (anc (2 * i) (r + 1) : Nat)) by simp [nvs, ivs, ups_at (2 * i) d 0 r hr1])
  have PLL : (nvs (ups (2 * i) 0 d)).length = d := by rw [nvs_len, ups_len]
  have LVN := fun (W : World) (ta : Option Addr) (c' : Nat) => tleaves_any ta t.length c' W (by omega)
  rw [hNN] at LVN
  obtain ⟨ta, n0, rfl, hc, hc2⟩ := h.sl
  obtain ⟨P, hP⟩ : ∃ P, P = blankR t i := ⟨_, rfl⟩
  rw [← hP] at STA STP FIN
  obtain ⟨PL, hPL⟩ : ∃ PL, PL = nvs (ups (2 * i) 0 d) := ⟨_, rfl⟩
  rw [← hPL] at PA PLG PLL
  obtain ⟨A, hA⟩ : ∃ A : Nat → Nat, A = fun r => anc (2 * i) (r + 1) := ⟨_, rfl⟩
  have hA' : ∀ r, anc (2 * i) (r + 1) = A r := fun r => by rw [hA]
  simp only [hA'] at STP PLG AIN
  obtain ⟨BF, hBF⟩ : ∃ F, F = blankF t i := ⟨_, rfl⟩
  rw [← hBF] at FIN ⊢
  obtain ⟨N, hN⟩ : ∃ N, N = 2 ^ d := ⟨_, rfl⟩
  rw [← hN] at PA LVN hi
  rw [show ((2 * i : Nat) : Int) = 2 * (i : Int) by omega] at PA
  have hN16 : N ≤ 65536 := by omega
  obtain ⟨n, hn⟩ : ∃ n, n = t.length := ⟨_, rfl⟩
  rw [← hn] at CP LVN SLV STA STP FIN AIN hc hmed ⊢
  have HCP := Lib.hid CP
  have HPA := Lib.hid PA
  have HSLV := Lib.hid SLV
  have HSTA := Lib.hid STA
  have HSTP := Lib.hid STP
  have HFIN := Lib.hid FIN
  have HAIN := Lib.hid AIN
  have HPLG := Lib.hid PLG
  have HPLL := Lib.hid PLL
  have HLV := Lib.hid LVN
  have hd16 : d ≤ 16 := by omega
  have HLT := Lib.hid hn
  clear CP PA SLV STA STP FIN AIN PLG PLL LVN hP hPL hA hA' hBF hN hn hi1 hNN e2 h17 hlen h hs hd
  go_enter Try.func45, Try.ntmps45
  go_wp2_with fail
  refine (HCP.out).mono ?_
  rintro e w3 ⟨v3, rfl, hto, hb⟩
  obtain ⟨g, cap, rfl, hgB, hgl, hcap⟩ := HSLV.out w3 v3 hto
  have hcm : n ≤ cap ∧ cap ≤ maxLen := by
    obtain ⟨xs, k1, _⟩ := hto
    obtain ⟨g', cap', e, _, _, q1, q2, _⟩ := k1.out htp
    simp only [Value.slice.injEq] at e
    rw [HLT.out]
    obtain ⟨_, _, rfl⟩ := e
    exact ⟨q1, q2⟩
  have HCM := Lib.hid hcm
  have HWT3 := Lib.hid (HSTA.out w3 g cap hto hb)
  clear hto hb hgB hcm
  go_wp2_with fail
  refine (HLV.out w3 _ _).mono ?_
  rintro e w' ⟨rfl, hw'⟩
  obtain rfl := hw'.symm
  go_wp2_with fail
  refine (HPA.out w3).mono ?_
  rintro e w6 ⟨vp, rfl, hownp, hbp⟩
  have HWV := Lib.hid ((HWT3.out.see (vp' := vp) (fun k hk => (hownp.blockLt hk).2)).below hbp)
  obtain ⟨BP, hBP⟩ : ∃ B, B = w3.heap.size := ⟨_, rfl⟩
  rw [← hBP] at hownp
  have HOP0 := Lib.hid hownp
  obtain ⟨ap, cp, hvp⟩ : ∃ a c, vp = .slice a d c := by obtain ⟨a, c, e, _⟩ := hownp.rd; rw [HPLL.out] at e; exact ⟨a, c, e⟩
  clear hownp hbp hBP
  subst hvp
  obtain ⟨vp, hvp⟩ : ∃ v, v = Value.slice ap d cp := ⟨_, rfl⟩
  have HVE := Lib.hid hvp
  rw [← hvp] at HWV HOP0
  clear hvp
  go_wp2_with fail
  go_loopg [16] d (fun q iv wr => ∃ r : Nat, r + q = d ∧ iv = .int .i64 (r : Nat) ∧ WT vp w wr g cap n (P r) ∧ Own wr BP 3 vp PL)
  case atStart => exact ⟨0, by omega, rfl, HWV.out, HOP0.out⟩
  case round =>
    obtain ⟨r, hr, rfl, hwt, hop⟩ := hrel
    have HR := Lib.hid hr
    have HWT := Lib.hid hwt
    have HOP := Lib.hid hop
    by_cases hlt : r < d
    · have hlt' : decide (r < d) = true := decide_eq_true hlt
      have hltI : (r : Int) < (d : Int) := by omega
      have hrd := hop.rd
      rw [HVE.out] at hrd
      obtain ⟨bp, op, rfl, hbp2, cu⟩ := hrd.at3 (HPLG.out r hlt)
      have hxm := HAIN.out r hlt
      have hpg : vp.ownBlock ≠ some g := by
        obtain ⟨cur, kb, _⟩ := hwt.blkG
        exact hop.ne_blk kb (by decide)
      have HTH := Lib.hid (hwt.there hxm)
      have hnx := HSTP.out vp wr g cap r hlt hwt (fun k hk => (hop.blockLt hk).1)
      have hop2 : Own (wr.setCells g (A r * 10) zeroC.toList) BP 3 vp PL := hop.grown (grownBy_setCells _ _) (fun k hk e => by
        simp only [Option.some.injEq] at e
        rw [← e] at hk
        exact hpg hk)
      obtain ⟨x, hx⟩ : ∃ x, x = A r := ⟨_, rfl⟩
      rw [← hx] at cu hxm hnx hop2 HTH
      obtain ⟨w9, hw9⟩ : ∃ w9, w9 = wr.setCells g (x * 10) zeroC.toList := ⟨_, rfl⟩
      rw [← hw9] at hnx hop2
      have HW9 := Lib.hid hw9
      have HNX := Lib.hid hnx
      have HOP2 := Lib.hid hop2
      clear hr hwt hop hrd hx hnx hop2 hpg hw9
      go_wp2_with (refine wpList_store_mid rfl 45 (.tmp 23) (.tmp 22) rfl g (x * 10) zeroC rfl rfl (by rw [zeroC_size]; exact HTH.out) (by rw [zeroC_size]; exact node_info) zeroC_one ?_; rw [← HW9.out])
      go_roundg (gk - 1)
      case measure => have := HR.out; omega
      case rel => exact ⟨r + 1, by have := HR.out; omega, by go_num, HNX.out, HOP2.out⟩
    · obtain rfl : r = d := by omega
      have hlt' : decide (r < r) = false := decide_eq_false hlt
      have HF := Lib.hid (HFIN.out vp wr g cap hwt)
      clear hr hwt hop hlt
      go_wp2_with fail
      go_ret
      exact ⟨_, _, rfl, HCM.out.2, HCM.out.1, HF.out⟩
set_option maxRecDepth 100000 in
set_option maxHeartbeats 8000000 in
theorem tupd_no (v : Value) (c : Array Value) (t : List NodeD) (l : LeafD) (i : Int) (w : World) (h : TreeR w v t) (hl : LeafC w l c) (hm : medT t = true) (hok : TreeOk t) (hr : rightT t = false) :
    Calls Try.prog 15 #[v, .int .i64 i, .agg c] w fun e w' => e = .returned (.tuple #[.slice none 0 0, .int .u8 12]) ∧ Below w.heap.size w w' := by
  have TR := fun (W : World) (hw : Below w.heap.size w W) => tright_med v t W (h.below hw (Nat.le_refl _)) hm hok
  rw [hr] at TR
  obtain ⟨a, n, c0, rfl⟩ : ∃ a n c, v = .slice a n c := by obtain ⟨a, c, e, _⟩ := h.sl; exact ⟨_, _, _, e⟩
  obtain ⟨a1, c1, a2, c2, a3, c3, a4, c4, a5, c5, rfl, -⟩ := hl
  obtain ⟨l1, hl1⟩ : ∃ x, x = l.box.length := ⟨_, rfl⟩
  obtain ⟨l2, hl2⟩ : ∃ x, x = l.sign.length := ⟨_, rfl⟩
  obtain ⟨l3, hl3⟩ : ∃ x, x = l.ident.length := ⟨_, rfl⟩
  obtain ⟨l4, hl4⟩ : ∃ x, x = l.par.length := ⟨_, rfl⟩
  obtain ⟨l5, hl5⟩ : ∃ x, x = l.sig.length := ⟨_, rfl⟩
  obtain ⟨s, hsr⟩ : ∃ s, s = l.source := ⟨_, rfl⟩
  rw [← hl1, ← hl2, ← hl3, ← hl4, ← hl5, ← hsr] 
  have HTR := Lib.hid TR
  clear TR hl1 hl2 hl3 hl4 hl5 hsr h hm hok hr
  go_enter Try.func15, Try.ntmps15
  go_wp2_with fail
  have HBK0 := Lib.hid (Blk.new w 25 #[.slice a1 l1 c1, .slice a2 l2 c2, .slice a3 l3 c3, .int .u8 (s : Nat), .slice a4 l4 c4, .slice a5 l5 c5])
  have HB0 := Lib.hid ((Below.refl w.heap.size w).alloc (Nat.le_refl _) (.cells #[.slice a1 l1 c1, .slice a2 l2 c2, .slice a3 l3 c3, .int .u8 (s : Nat), .slice a4 l4 c4, .slice a5 l5 c5] 25))
  generalize hw0 : w.alloc (.cells #[.slice a1 l1 c1, .slice a2 l2 c2, .slice a3 l3 c3, .int .u8 (s : Nat), .slice a4 l4 c4, .slice a5 l5 c5] 25) = w0 at HBK0 HB0 ⊢
  clear hw0
  refine (HTR.out w0 HB0.out).mono ?_
  rintro e w1 ⟨rfl, hb⟩
  have HB1 := Lib.hid (HB0.out.trans (hb.mono HB0.out.size))
  have HBK1 := Lib.hid (HBK0.out.below hb HBK0.out.lt)
  clear hb
  go_wp2_with fail
  go_ret2
  exact ⟨rfl, HB1.out⟩
set_option maxRecDepth 100000 in
set_option maxHeartbeats 8000000 in
theorem tupd_form (v : Value) (c : Array Value) (t : List NodeD) (l : LeafD) (i : Int) (w : World) (h : TreeR w v t) (hl : LeafC w l c) (hm : medT t = true) (hok : TreeOk t) (hr : rightT t = true) (hls : SmallL l) (hsrc : l.source < 256) (hf : leafOkB l = false) :
    Calls Try.prog 15 #[v, .int .i64 i, .agg c] w fun e w' => e = .returned (.tuple #[.slice none 0 0, .int .u8 3]) ∧ Below w.heap.size w w' := by
  have TR := fun (W : World) (hw : Below w.heap.size w W) => tright_med v t W (h.below hw (Nat.le_refl _)) hm hok
  have RL := fun (W : World) (hw : Below w.heap.size w W) => rightLeafT_any l c W (hl.below hw (Nat.le_refl _)) hls hsrc
  rw [hr] at TR
  rw [hf] at RL
  obtain ⟨a, n, c0, rfl⟩ : ∃ a n c, v = .slice a n c := by obtain ⟨a, c, e, _⟩ := h.sl; exact ⟨_, _, _, e⟩
  obtain ⟨a1, c1, a2, c2, a3, c3, a4, c4, a5, c5, rfl, -⟩ := hl
  obtain ⟨l1, hl1⟩ : ∃ x, x = l.box.length := ⟨_, rfl⟩
  obtain ⟨l2, hl2⟩ : ∃ x, x = l.sign.length := ⟨_, rfl⟩
  obtain ⟨l3, hl3⟩ : ∃ x, x = l.ident.length := ⟨_, rfl⟩
  obtain ⟨l4, hl4⟩ : ∃ x, x = l.par.length := ⟨_, rfl⟩
  obtain ⟨l5, hl5⟩ : ∃ x, x = l.sig.length := ⟨_, rfl⟩
  obtain ⟨s, hsr⟩ : ∃ s, s = l.source := ⟨_, rfl⟩
  rw [← hl1, ← hl2, ← hl3, ← hl4, ← hl5, ← hsr] at RL ⊢
  have HRL := Lib.hid RL
  have HTR := Lib.hid TR
  clear TR hl1 hl2 hl3 hl4 hl5 hsr h hm hok RL hr hls hsrc hf
  go_enter Try.func15, Try.ntmps15
  go_wp2_with fail
  have HBK0 := Lib.hid (Blk.new w 25 #[.slice a1 l1 c1, .slice a2 l2 c2, .slice a3 l3 c3, .int .u8 (s : Nat), .slice a4 l4 c4, .slice a5 l5 c5])
  have HB0 := Lib.hid ((Below.refl w.heap.size w).alloc (Nat.le_refl _) (.cells #[.slice a1 l1 c1, .slice a2 l2 c2, .slice a3 l3 c3, .int .u8 (s : Nat), .slice a4 l4 c4, .slice a5 l5 c5] 25))
  generalize hw0 : w.alloc (.cells #[.slice a1 l1 c1, .slice a2 l2 c2, .slice a3 l3 c3, .int .u8 (s : Nat), .slice a4 l4 c4, .slice a5 l5 c5] 25) = w0 at HBK0 HB0 ⊢
  clear hw0
  refine (HTR.out w0 HB0.out).mono ?_
  rintro e w1 ⟨rfl, hb⟩
  have HB1 := Lib.hid (HB0.out.trans (hb.mono HB0.out.size))
  have HBK1 := Lib.hid (HBK0.out.below hb HBK0.out.lt)
  clear hb
  go_wp2_with (refine wpList_load_at rfl 25 (.tmp 5) rfl w.heap.size rfl 25 #[.slice a1 l1 c1, .slice a2 l2 c2, .slice a3 l3 c3, .int .u8 (s : Nat), .slice a4 l4 c4, .slice a5 l5 c5] (0, 0) _ HBK1.out Try.underlying25 rfl (by kernel_rfl) ?_)
  refine (HRL.out w1 HB1.out).mono ?_
  rintro e w2 ⟨rfl, hb⟩
  have HB2 := Lib.hid (HB1.out.trans (hb.mono HB1.out.size))
  have HBK2 := Lib.hid (HBK1.out.below hb HBK1.out.lt)
  clear hb
  go_wp2_with fail
  go_ret2
  exact ⟨rfl, HB2.out⟩
set_option maxRecDepth 100000 in
set_option maxHeartbeats 8000000 in
theorem tupd_none (v : Value) (c : Array Value) (t : List NodeD) (l : LeafD) (i : Int) (hh : Nat) (w : World) (h : TreeR w v t) (hl : LeafC w l c) (hm : medT t = true) (hok : TreeOk t) (hr : rightT t = true) (hls : SmallL l) (hsrc : l.source < 256) (hf : leafOkB l = true) (hlen : t.length = 2 * hh + 1) (hN : leavesN t.length = hh + 1) (hib : -9223372036854775808 ≤ i ∧ i ≤ 9223372036854775807) (hi : i ∉ rmemL t (hh + 1)) :
    Calls Try.prog 15 #[v, .int .i64 i, .agg c] w fun e w' => e = .returned (.tuple #[.slice none 0 0, .int .u8 7]) ∧ Below w.heap.size w w' := by
  have TR := fun (W : World) (hw : Below w.heap.size w W) => tright_med v t W (h.below hw (Nat.le_refl _)) hm hok
  have RL := fun (W : World) (hw : Below w.heap.size w W) => rightLeafT_any l c W (hl.below hw (Nat.le_refl _)) hls hsrc
  have MB := fun (W : World) (hw : Below w.heap.size w W) => member_any v t hh i W (h.below hw (Nat.le_refl _)) hok hlen hN (by have := medT_len hm; omega) hib
  rw [hr] at TR
  rw [hf] at RL
  rw [decide_eq_false hi] at MB
  obtain ⟨a, n, c0, rfl⟩ : ∃ a n c, v = .slice a n c := by obtain ⟨a, c, e, _⟩ := h.sl; exact ⟨_, _, _, e⟩
  obtain ⟨a1, c1, a2, c2, a3, c3, a4, c4, a5, c5, rfl, -⟩ := hl
  obtain ⟨l1, hl1⟩ : ∃ x, x = l.box.length := ⟨_, rfl⟩
  obtain ⟨l2, hl2⟩ : ∃ x, x = l.sign.length := ⟨_, rfl⟩
  obtain ⟨l3, hl3⟩ : ∃ x, x = l.ident.length := ⟨_, rfl⟩
  obtain ⟨l4, hl4⟩ : ∃ x, x = l.par.length := ⟨_, rfl⟩
  obtain ⟨l5, hl5⟩ : ∃ x, x = l.sig.length := ⟨_, rfl⟩
  obtain ⟨s, hsr⟩ : ∃ s, s = l.source := ⟨_, rfl⟩
  rw [← hl1, ← hl2, ← hl3, ← hl4, ← hl5, ← hsr] at RL ⊢
  have HRL := Lib.hid RL
  have HMB := Lib.hid MB
  have HTR := Lib.hid TR
  clear TR hl1 hl2 hl3 hl4 hl5 hsr h hm hok RL MB hr hls hsrc hf hlen hN hi
  go_enter Try.func15, Try.ntmps15
  go_wp2_with fail
  have HBK0 := Lib.hid (Blk.new w 25 #[.slice a1 l1 c1, .slice a2 l2 c2, .slice a3 l3 c3, .int .u8 (s : Nat), .slice a4 l4 c4, .slice a5 l5 c5])
  have HB0 := Lib.hid ((Below.refl w.heap.size w).alloc (Nat.le_refl _) (.cells #[.slice a1 l1 c1, .slice a2 l2 c2, .slice a3 l3 c3, .int .u8 (s : Nat), .slice a4 l4 c4, .slice a5 l5 c5] 25))
  generalize hw0 : w.alloc (.cells #[.slice a1 l1 c1, .slice a2 l2 c2, .slice a3 l3 c3, .int .u8 (s : Nat), .slice a4 l4 c4, .slice a5 l5 c5] 25) = w0 at HBK0 HB0 ⊢
  clear hw0
  refine (HTR.out w0 HB0.out).mono ?_
  rintro e w1 ⟨rfl, hb⟩
  have HB1 := Lib.hid (HB0.out.trans (hb.mono HB0.out.size))
  have HBK1 := Lib.hid (HBK0.out.below hb HBK0.out.lt)
  clear hb
  go_wp2_with (refine wpList_load_at rfl 25 (.tmp 5) rfl w.heap.size rfl 25 #[.slice a1 l1 c1, .slice a2 l2 c2, .slice a3 l3 c3, .int .u8 (s : Nat), .slice a4 l4 c4, .slice a5 l5 c5] (0, 0) _ HBK1.out Try.underlying25 rfl (by kernel_rfl) ?_)
  refine (HRL.out w1 HB1.out).mono ?_
  rintro e w2 ⟨rfl, hb⟩
  have HB2 := Lib.hid (HB1.out.trans (hb.mono HB1.out.size))
  have HBK2 := Lib.hid (HBK1.out.below hb HBK1.out.lt)
  clear hb
  go_wp2_with fail
  refine (HMB.out w2 HB2.out).mono ?_
  rintro e w3 ⟨rfl, hw3⟩
  obtain rfl := hw3.symm
  go_wp2_with fail
  go_ret2
  exact ⟨rfl, HB2.out⟩
set_option maxRecDepth 100000 in
set_option maxHeartbeats 8000000 in
theorem tupd_yes (v : Value) (c : Array Value) (t : List NodeD) (l : LeafD) (i d : Nat) (w : World) (h : TreeR w v t) (hl : LeafC w l c) (hm : medT t = true) (hok : TreeOk t) (hr : rightT t = true) (hls : SmallL l) (hsrc : l.source < 256) (hf : leafOkB l = true) (hlen : t.length + 1 = 2 * 2 ^ d) (hd : d ≤ 15) (hi : i < 2 ^ d) (hk : (nd t (2 * i)).kind = 1) :
    Calls Try.prog 15 #[v, .int .i64 (i : Nat), .agg c] w fun e w' => ∃ v', e = .returned (.tuple #[v', .int .u8 0]) ∧ TreeO w' w.heap.size v' (listT t.length (setF t i (heldD l))) ∧ Below w.heap.size w w' := by
  have h17 := two_pow_le (show d + 1 ≤ 16 by omega)
  have hN : leavesN t.length = (2 ^ d - 1) + 1 := by rw [leavesN_pow (d := d) (by omega) hlen]; omega
  have hl2d : t.length = 2 * (2 ^ d - 1) + 1 := by omega
  obtain ⟨hh, hhe⟩ : ∃ hh, hh = 2 ^ d - 1 := ⟨_, rfl⟩
  rw [← hhe] at hN hl2d
  have TR := fun (W : World) (hw : Below w.heap.size w W) => tright_med v t W (h.below hw (Nat.le_refl _)) hm hok
  have RL := fun (W : World) (hw : Below w.heap.size w W) => rightLeafT_any l c W (hl.below hw (Nat.le_refl _)) hls hsrc
  have MB := fun (W : World) (hw : Below w.heap.size w W) => member_any v t hh (i : Nat) W (h.below hw (Nat.le_refl _)) hok hl2d hN (by have := medT_len hm; omega) (by omega)
  rw [decide_eq_true ((mem_iff t (hh + 1) i).2 ⟨by omega, hk⟩)] at MB
  have BL := fun (W : World) (hw : Below w.heap.size w W) => blanked_any v t i d W (h.below hw (Nat.le_refl _)) hm hlen hd hi
  have HD := fun (W : World) (hw : Below w.heap.size w W) => held_any l c W (hl.below hw (Nat.le_refl _)) hls
  have ST := fun (W1 W2 : World) (wb : World) (g cap : Nat) (cs : Array Value) (hwb : w.heap.size ≤ wb.heap.size) (hb : Below w.heap.size w wb) (h1 : WT (.slice none 0 0) wb W1 g cap t.length (blankF t i)) (h2 : Below W1.heap.size W1 W2) (h3 : NodeO W2 W1.heap.size (heldD l) cs) => (show TreeO (W2.setCells g (2 * i * 10) cs.toList) w.heap.size (.slice (some ⟨g, 0, none⟩) t.length cap) (listT t.length (setF t i (heldD l))) ∧ Below w.heap.size w (W2.setCells g (2 * i * 10) cs.toList) from by
    have k := (h1.node (fun k hk => by simp [Value.ownBlock] at hk) h2 (x := 2 * i) (by omega) h3).congr (G := setF t i (heldD l)) fun x _ => setF_blank t i _ x
    exact ⟨k.tree.o.mono hwb, hb.trans (k.low.mono hwb)⟩)
  have TH := fun (W1 W2 : World) (wb : World) (g cap : Nat) (h1 : WT (.slice none 0 0) wb W1 g cap t.length (blankF t i)) (h2 : Below W1.heap.size W1 W2) => (h1.below h2).there (x := 2 * i) (by omega)
  have hin : 2 * i < t.length := by omega
  rw [hr] at TR
  rw [hf] at RL
  obtain ⟨n1, hn1⟩ : ∃ n, n = t.length := ⟨_, rfl⟩
  obtain ⟨BF, hBF⟩ : ∃ F, F = blankF t i := ⟨_, rfl⟩
  obtain ⟨OT, hOT⟩ : ∃ T, T = listT t.length (setF t i (heldD l)) := ⟨_, rfl⟩
  obtain ⟨D, hD⟩ : ∃ D, D = heldD l := ⟨_, rfl⟩
  rw [← hOT] at ST ⊢
  rw [← hD] at ST HD
  rw [← hn1] at BL ST TH hin
  rw [← hBF] at BL ST TH
  have hi16 : i < 65536 := by omega
  have hn16 : n1 ≤ 131071 := by omega
  obtain ⟨a, n, c0, rfl⟩ : ∃ a n c, v = .slice a n c := by obtain ⟨a, c, e, _⟩ := h.sl; exact ⟨_, _, _, e⟩
  obtain ⟨a1, c1, a2, c2, a3, c3, a4, c4, a5, c5, rfl, -⟩ := hl
  obtain ⟨l1, hl1⟩ : ∃ x, x = l.box.length := ⟨_, rfl⟩
  obtain ⟨l2, hl2⟩ : ∃ x, x = l.sign.length := ⟨_, rfl⟩
  obtain ⟨l3, hl3⟩ : ∃ x, x = l.ident.length := ⟨_, rfl⟩
  obtain ⟨l4, hl4⟩ : ∃ x, x = l.par.length := ⟨_, rfl⟩
  obtain ⟨l5, hl5⟩ : ∃ x, x = l.sig.length := ⟨_, rfl⟩
  obtain ⟨s, hsr⟩ : ∃ s, s = l.source := ⟨_, rfl⟩
  rw [← hl1, ← hl2, ← hl3, ← hl4, ← hl5, ← hsr] at RL HD ⊢
  have HRL := Lib.hid RL
  have HMB := Lib.hid MB
  have HBL := Lib.hid BL
  have HHD := Lib.hid HD
  have HST := Lib.hid ST
  have HTH := Lib.hid TH
  have HTR := Lib.hid TR
  clear TR hl1 hl2 hl3 hl4 hl5 hsr h hm hok RL MB BL HD ST TH hn1 hBF hOT hD hr hls hsrc hf hlen hN hl2d hhe h17 hi hk hd
  go_enter Try.func15, Try.ntmps15
  go_wp2_with fail
  have HBK0 := Lib.hid (Blk.new w 25 #[.slice a1 l1 c1, .slice a2 l2 c2, .slice a3 l3 c3, .int .u8 (s : Nat), .slice a4 l4 c4, .slice a5 l5 c5])
  have HB0 := Lib.hid ((Below.refl w.heap.size w).alloc (Nat.le_refl _) (.cells #[.slice a1 l1 c1, .slice a2 l2 c2, .slice a3 l3 c3, .int .u8 (s : Nat), .slice a4 l4 c4, .slice a5 l5 c5] 25))
  generalize hw0 : w.alloc (.cells #[.slice a1 l1 c1, .slice a2 l2 c2, .slice a3 l3 c3, .int .u8 (s : Nat), .slice a4 l4 c4, .slice a5 l5 c5] 25) = w0 at HBK0 HB0 ⊢
  clear hw0
  refine (HTR.out w0 HB0.out).mono ?_
  rintro e w1 ⟨rfl, hb⟩
  have HB1 := Lib.hid (HB0.out.trans (hb.mono HB0.out.size))
  have HBK1 := Lib.hid (HBK0.out.below hb HBK0.out.lt)
  clear hb
  go_wp2_with (refine wpList_load_at rfl 25 (.tmp 5) rfl w.heap.size rfl 25 #[.slice a1 l1 c1, .slice a2 l2 c2, .slice a3 l3 c3, .int .u8 (s : Nat), .slice a4 l4 c4, .slice a5 l5 c5] (0, 0) _ HBK1.out Try.underlying25 rfl (by kernel_rfl) ?_)
  refine (HRL.out w1 HB1.out).mono ?_
  rintro e w2 ⟨rfl, hb⟩
  have HB2 := Lib.hid (HB1.out.trans (hb.mono HB1.out.size))
  have HBK2 := Lib.hid (HBK1.out.below hb HBK1.out.lt)
  clear hb
  go_wp2_with fail
  refine (HMB.out w2 HB2.out).mono ?_
  rintro e w3 ⟨rfl, hw3⟩
  obtain rfl := hw3.symm
  go_wp2_with fail
  refine (HBL.out w2 HB2.out).mono ?_
  rintro e w4 ⟨g, cap, rfl, hcm, hcn, hwt⟩
  have hcap : cap ≤ 9223372036854775807 := by unfold maxLen at hcm; exact hcm
  have HW4 := Lib.hid hwt
  have HB4 := Lib.hid (HB2.out.trans (hwt.low.mono HB2.out.size))
  have HBK4 := Lib.hid (HBK2.out.below hwt.low HBK2.out.lt)
  clear hwt hcm
  go_wp2_with (refine wpList_load_at rfl 25 (.tmp 5) rfl w.heap.size rfl 25 #[.slice a1 l1 c1, .slice a2 l2 c2, .slice a3 l3 c3, .int .u8 (s : Nat), .slice a4 l4 c4, .slice a5 l5 c5] (0, 0) _ HBK4.out Try.underlying25 rfl (by kernel_rfl) ?_)
  refine (HHD.out w4 HB4.out).mono ?_
  rintro e w5 ⟨c', rfl, hno5, hb5⟩
  obtain ⟨hcz, hco⟩ := hno5.ones
  have HS5 := Lib.hid (HST.out w4 w5 w2 g cap c' HB2.out.size HB2.out HW4.out hb5 hno5)
  have HTH5 := Lib.hid (show w5.there g (2 * i * 10) c'.size by rw [hcz]; exact HTH.out w4 w5 w2 g cap HW4.out hb5)
  have HI := Lib.hid (show (Try.prog.info? 45).map (·.size) = some c'.size by rw [hcz]; exact node_info)
  have HONE := Lib.hid (show c'.all (·.oneCell') = true by rw [← Array.all_toList]; exact hco)
  obtain ⟨w9, hw9⟩ : ∃ w9, w9 = w5.setCells g (2 * i * 10) c'.toList := ⟨_, rfl⟩
  rw [← hw9] at HS5
  have HW9 := Lib.hid hw9
  have hjm : 2 * (i : Int) < (n1 : Int) := by omega
  clear hno5 hb5 hcz hco hw9
  go_wp2_with (refine wpList_store_mid rfl 45 (.tmp 30) (.tmp 29) rfl g (2 * i * 10) c' rfl rfl HTH5.out HI.out HONE.out ?_; rw [← HW9.out])
  go_ret2
  exact ⟨_, rfl, HS5.out.1, HS5.out.2⟩
end Go.Proofs.Ytlcmodbjbdfloaa
/- Walks: tree.Remove. -/
namespace Go.Proofs.Ytlcmodbjbdfloaa
open Go.RowKit WalkM WireM
set_option linter.unusedVariables false
theorem TreeR.take {w : World} {a : Option Addr} {n c : Nat} {t : List NodeD} (h : TreeR w (.slice a n c) t) (k : Nat) (hk : k ≤ n) {c' : Nat} (h1 : k ≤ c') (h2 : c' ≤ c) : TreeR w (.slice a k c') (t.take k) := by
  obtain ⟨a', cap, e, h3, h4, h5⟩ := h
  simp only [Value.slice.injEq] at e
  obtain ⟨rfl, rfl, rfl⟩ := e
  have hl : (t.take k).length = k := by rw [List.length_take]; omega
  refine ⟨_, c', by rw [hl], by omega, by omega, fun i hi => ?_⟩
  rw [hl] at hi
  have : nd (t.take k) i = nd t i := by
    unfold nd
    rw [List.getD_eq_getElem?_getD, List.getElem?_take, if_pos hi, List.getD_eq_getElem?_getD]
  rw [this]
  exact h5 i (by omega)
set_option maxRecDepth 100000 in
theorem clip_any (b off m cap : Nat) (w : World) (h : m ≤ cap) (hc : cap ≤ 9223372036854775807) :
    Calls Try.prog 48 #[.slice (some ⟨b, off, none⟩) m cap] w fun e w' => e = .returned (.slice (some ⟨b, off, none⟩) m m) ∧ w' = w := by
  go_enter Try.func48, Try.ntmps48
  go_wp2_with fail
  go_ret
  exact ⟨rfl, rfl⟩
/-- one halving: the tree of so many leaves is cut to half -/
theorem cut_succ {F : Nat → NodeD} {j : Nat} (h : halfS F (j + 1) = false) : cutK F (j + 1) = cutK F j := by
  conv => lhs; unfold cutK
  rw [if_neg (by rw [h]; decide)]
theorem cut_stop {F : Nat → NodeD} {j : Nat} (h : halfS F (j + 1) = true) : cutK F (j + 1) = j + 1 := by
  conv => lhs; unfold cutK
  rw [if_pos h]
set_option maxRecDepth 100000 in
set_option maxHeartbeats 8000000 in
theorem trem_no (v : Value) (t : List NodeD) (i : Int) (w : World) (h : TreeR w v t) (hm : medT t = true) (hok : TreeOk t) (hr : rightT t = false) :
    Calls Try.prog 16 #[v, .int .i64 i] w fun e w' => e = .returned (.tuple #[.slice none 0 0, .int .u8 12]) ∧ Below w.heap.size w w' := by
  have TR := fun (W : World) (hw : Below w.heap.size w W) => tright_med v t W (h.below hw (Nat.le_refl _)) hm hok
  rw [hr] at TR
  obtain ⟨a, n, c0, rfl⟩ : ∃ a n c, v = .slice a n c := by obtain ⟨a, c, e, _⟩ := h.sl; exact ⟨_, _, _, e⟩
  have HTR := Lib.hid TR
  clear TR h hm hok hr
  go_enter Try.func16, Try.ntmps16
  go_wp2_with fail
  refine (HTR.out w (Below.refl _ _)).mono ?_
  rintro e w1 ⟨rfl, hb⟩
  have HB1 := Lib.hid hb
  clear hb
  go_wp2_with fail
  go_ret2
  exact ⟨rfl, HB1.out⟩
set_option maxRecDepth 100000 in
set_option maxHeartbeats 8000000 in
theorem trem_none (v : Value) (t : List NodeD) (i : Int) (hh : Nat) (w : World) (h : TreeR w v t) (hm : medT t = true) (hok : TreeOk t) (hr : rightT t = true) (hlen : t.length = 2 * hh + 1) (hN : leavesN t.length = hh + 1) (hib : -9223372036854775808 ≤ i ∧ i ≤ 9223372036854775807) (hi : i ∉ rmemL t (hh + 1)) :
    Calls Try.prog 16 #[v, .int .i64 i] w fun e w' => e = .returned (.tuple #[.slice none 0 0, .int .u8 7]) ∧ Below w.heap.size w w' := by
  have TR := fun (W : World) (hw : Below w.heap.size w W) => tright_med v t W (h.below hw (Nat.le_refl _)) hm hok
  have MB := fun (W : World) (hw : Below w.heap.size w W) => member_any v t hh i W (h.below hw (Nat.le_refl _)) hok hlen hN (by have := medT_len hm; omega) hib
  rw [hr] at TR
  rw [decide_eq_false hi] at MB
  obtain ⟨a, n, c0, rfl⟩ : ∃ a n c, v = .slice a n c := by obtain ⟨a, c, e, _⟩ := h.sl; exact ⟨_, _, _, e⟩
  have HMB := Lib.hid MB
  have HTR := Lib.hid TR
  clear TR h hm hok MB hr hlen hN hi
  go_enter Try.func16, Try.ntmps16
  go_wp2_with fail
  refine (HTR.out w (Below.refl _ _)).mono ?_
  rintro e w1 ⟨rfl, hb⟩
  have HB1 := Lib.hid hb
  clear hb
  go_wp2_with fail
  refine (HMB.out w1 HB1.out).mono ?_
  rintro e w3 ⟨rfl, hw3⟩
  obtain rfl := hw3.symm
  go_wp2_with fail
  go_ret2
  exact ⟨rfl, HB1.out⟩
set_option maxRecDepth 100000 in
set_option maxHeartbeats 8000000 in
theorem trem_last (v : Value) (t : List NodeD) (i d : Nat) (w : World) (h : TreeR w v t) (hm : medT t = true) (hok : TreeOk t) (hr : rightT t = true) (hlen : t.length + 1 = 2 * 2 ^ d) (hd : d ≤ 15) (hi : i < 2 ^ d) (hk : (nd t (2 * i)).kind = 1) (h1 : (memL t t.length).length = 1) :
    Calls Try.prog 16 #[v, .int .i64 (i : Nat)] w fun e w' => e = .returned (.tuple #[.slice none 0 0, .int .u8 1]) ∧ Below w.heap.size w w' := by
  have h17 := two_pow_le (show d + 1 ≤ 16 by omega)
  have hN : leavesN t.length = (2 ^ d - 1) + 1 := by rw [leavesN_pow (d := d) (by omega) hlen]; omega
  have hl2d : t.length = 2 * (2 ^ d - 1) + 1 := by omega
  obtain ⟨hh, hhe⟩ : ∃ hh, hh = 2 ^ d - 1 := ⟨_, rfl⟩
  rw [← hhe] at hN hl2d
  have hmed := medT_len hm
  have TR := fun (W : World) (hw : Below w.heap.size w W) => tright_med v t W (h.below hw (Nat.le_refl _)) hm hok
  have MB := fun (W : World) (hw : Below w.heap.size w W) => member_any v t hh (i : Nat) W (h.below hw (Nat.le_refl _)) hok hl2d hN (by have := medT_len hm; omega) (by omega)
  rw [decide_eq_true ((mem_iff t (hh + 1) i).2 ⟨by omega, hk⟩)] at MB
  have ME := fun (W : World) (hw : Below w.heap.size w W) => members_any v t W (h.below hw (Nat.le_refl _)) hok (by omega)
  rw [hr] at TR
  obtain ⟨a, n, c0, rfl⟩ : ∃ a n c, v = .slice a n c := by obtain ⟨a, c, e, _⟩ := h.sl; exact ⟨_, _, _, e⟩
  have HMB := Lib.hid MB
  have HME := Lib.hid ME
  have HML := Lib.hid h1
  have HTR := Lib.hid TR
  clear TR h hm hok MB ME h1 hr hlen hN hl2d hhe h17 hi hk hd hmed
  go_enter Try.func16, Try.ntmps16
  go_wp2_with fail
  refine (HTR.out w (Below.refl _ _)).mono ?_
  rintro e w1 ⟨rfl, hb⟩
  have HB1 := Lib.hid hb
  clear hb
  go_wp2_with fail
  refine (HMB.out w1 HB1.out).mono ?_
  rintro e w3 ⟨rfl, hw3⟩
  obtain rfl := hw3.symm
  go_wp2_with fail
  refine (HME.out w1 HB1.out).mono ?_
  rintro e w2 ⟨vm, rfl, hom, hb⟩
  have HB2 := Lib.hid (HB1.out.trans (hb.mono HB1.out.size))
  obtain ⟨ma, mc, rfl⟩ : ∃ a c, vm = .slice a 1 c := by obtain ⟨a, c, e, _⟩ := hom.rd; rw [ivs_len', HML.out] at e; exact ⟨a, c, e⟩
  clear hom hb
  go_wp2_with fail
  go_ret2
  exact ⟨rfl, HB2.out⟩
set_option maxRecDepth 100000 in
set_option maxHeartbeats 8000000 in
theorem trem_yes (v : Value) (t : List NodeD) (i d : Nat) (w : World) (h : TreeR w v t) (hm : medT t = true) (hok : TreeOk t) (hr : rightT t = true) (hlen : t.length + 1 = 2 * 2 ^ d) (hd : d ≤ 15) (hi : i < 2 ^ d) (hk : (nd t (2 * i)).kind = 1) (h1 : (memL t t.length).length ≠ 1) :
    Calls Try.prog 16 #[v, .int .i64 (i : Nat)] w fun e w' => ∃ v', e = .returned (.tuple #[v', .int .u8 0]) ∧ TreeR w' v' (listT (2 * 2 ^ cutK (setF t i noNodeD) d - 1) (setF t i noNodeD)) ∧ Below w.heap.size w w' := by
  have h17 := two_pow_le (show d + 1 ≤ 16 by omega)
  have hN : leavesN t.length = (2 ^ d - 1) + 1 := by rw [leavesN_pow (d := d) (by omega) hlen]; omega
  have hl2d : t.length = 2 * (2 ^ d - 1) + 1 := by omega
  obtain ⟨hh, hhe⟩ : ∃ hh, hh = 2 ^ d - 1 := ⟨_, rfl⟩
  rw [← hhe] at hN hl2d
  have hmed := medT_len hm
  have TR := fun (W : World) (hw : Below w.heap.size w W) => tright_med v t W (h.below hw (Nat.le_refl _)) hm hok
  have MB := fun (W : World) (hw : Below w.heap.size w W) => member_any v t hh (i : Nat) W (h.below hw (Nat.le_refl _)) hok hl2d hN (by have := medT_len hm; omega) (by omega)
  rw [decide_eq_true ((mem_iff t (hh + 1) i).2 ⟨by omega, hk⟩)] at MB
  have ME := fun (W : World) (hw : Below w.heap.size w W) => members_any v t W (h.below hw (Nat.le_refl _)) hok (by omega)
  rw [hr] at TR
  have BL := fun (W : World) (hw : Below w.heap.size w W) => blanked_any v t i d W (h.below hw (Nat.le_refl _)) hm hlen hd hi
  have ST := fun (W1 wb : World) (g cap : Nat) (hwb : w.heap.size ≤ wb.heap.size) (hb : Below w.heap.size w wb) (h1 : WT (.slice none 0 0) wb W1 g cap t.length (blankF t i)) => (show TreeR (W1.setCells g (2 * i * 10) zeroC.toList) (.slice (some ⟨g, 0, none⟩) t.length cap) (listT t.length (setF t i noNodeD)) ∧ Below w.heap.size w (W1.setCells g (2 * i * 10) zeroC.toList) from by
    have k := (h1.blank (fun k hk => by simp [Value.ownBlock] at hk) (x := 2 * i) (by omega)).congr (G := setF t i noNodeD) fun x _ => setF_blank t i _ x
    have kr := k.tree.o.r
    exact ⟨kr, hb.trans (k.low.mono hwb)⟩)
  have TH := fun (W1 : World) (wb : World) (g cap : Nat) (h1 : WT (.slice none 0 0) wb W1 g cap t.length (blankF t i)) => h1.there (x := 2 * i) (by omega)
  have hin : 2 * i < t.length := by omega
  obtain ⟨F, hF⟩ : ∃ F, F = setF t i noNodeD := ⟨_, rfl⟩
  have hokF : ∀ m, TreeOk (listT m F) := fun m => listT_ok fun x _ => by
    rw [hF]; unfold setF
    split
    · exact noNode_ok
    · split
      · exact noNode_ok
      · exact hok.nd x
  rw [← hF] at ST ⊢
  have hlM : t.length = 2 * 2 ^ d - 1 := by omega
  rw [hlM] at ST BL TH hin
  have SOM := fun (W : World) (v : Value) (j : Nat) (h : TreeR W v ((listT (2 * 2 ^ j - 1) F).drop (2 ^ j))) => (show Calls Try.prog 47 #[v] W fun e w' => e = .returned (.bool (halfS F j)) ∧ Below W.heap.size W w' from tsome_any v _ W h (fun d hd => hokF _ d (List.mem_of_mem_drop hd)))
  have LVN := fun (W : World) (ta : Option Addr) (c' j : Nat) (hj : j ≤ d) => (show Calls Try.prog 32 #[.slice ta (2 * 2 ^ j - 1) c'] W fun e w' => e = .returned (.int .i64 (2 ^ j : Nat)) ∧ w' = W from by
    have hj2 : 2 ^ j ≤ 2 ^ d := Nat.pow_le_pow_right (by omega) hj
    have := tleaves_any ta (2 * 2 ^ j - 1) c' W (by omega)
    rw [leavesN_pow (d := j) (n := 2 * 2 ^ j - 1) (by omega) (by have := pow_pos' j; omega)] at this
    exact this)
  have DRP := fun (W : World) (g cap j : Nat) (h : TreeR W (.slice (some ⟨g, 0, none⟩) (2 * 2 ^ j - 1) cap) (listT (2 * 2 ^ j - 1) F)) => h.drop (2 ^ j) (by have := pow_pos' j; omega) (o' := 2 ^ j * 10) (n' := 2 * 2 ^ j - 1 - 2 ^ j) (c' := cap - 2 ^ j) (by omega) rfl rfl
  have TAK := fun (W : World) (g cap j : Nat) (hc : 2 * 2 ^ (j + 1) - 1 ≤ cap) (h : TreeR W (.slice (some ⟨g, 0, none⟩) (2 * 2 ^ (j + 1) - 1) cap) (listT (2 * 2 ^ (j + 1) - 1) F)) => (show TreeR W (.slice (some ⟨g, 0, none⟩) (2 * 2 ^ j - 1) cap) (listT (2 * 2 ^ j - 1) F) from by
    have e : 2 ^ (j + 1) = 2 * 2 ^ j := by rw [Nat.pow_succ]; omega
    have := h.take (2 * 2 ^ j - 1) (by omega) (c' := cap) (by omega) (Nat.le_refl _)
    rwa [listT_take F (by omega)] at this)
  have CLP := fun (W : World) (g cap j : Nat) (h : TreeR W (.slice (some ⟨g, 0, none⟩) (2 * 2 ^ j - 1) cap) (listT (2 * 2 ^ j - 1) F)) (hc : 2 * 2 ^ j - 1 ≤ cap) => (show TreeR W (.slice (some ⟨g, 0, none⟩) (2 * 2 ^ j - 1) (2 * 2 ^ j - 1)) (listT (2 * 2 ^ j - 1) F) from by
    have := h.take (2 * 2 ^ j - 1) (Nat.le_refl _) (c' := 2 * 2 ^ j - 1) (Nat.le_refl _) hc
    rwa [listT_take F (Nat.le_refl _)] at this)
  have MN1 := fun (j : Nat) => (show 2 * 2 ^ j - 1 + 1 = 2 * 2 ^ j by have := pow_pos' j; omega)
  have MN2 := fun (j : Nat) => (show 2 ^ (j + 1) = 2 * 2 ^ j by rw [Nat.pow_succ]; omega)
  have MN3 := fun (j : Nat) (hj : j ≤ d) => (show 2 ^ j ≤ 65536 by have := Nat.pow_le_pow_right (show 0 < 2 by omega) hj; omega)
  have MN4 := fun (j : Nat) => pow_pos' j
  have CS := fun (j : Nat) (h : halfS F (j + 1) = false) => cut_succ h
  have CT := fun (j : Nat) (h : halfS F (j + 1) = true) => cut_stop h
  have C0 : cutK F 0 = 0 := rfl
  obtain ⟨H, hH⟩ : ∃ H : Nat → Bool, H = halfS F := ⟨_, rfl⟩
  rw [← hH] at SOM CS CT
  obtain ⟨K, hK⟩ : ∃ K : Nat → Nat, K = cutK F := ⟨_, rfl⟩
  rw [← hK] at CS CT C0 ⊢
  obtain ⟨R, hR⟩ : ∃ R : Nat → List NodeD, R = fun j => listT (2 * 2 ^ j - 1) F := ⟨_, rfl⟩
  have hR' : ∀ j, listT (2 * 2 ^ j - 1) F = R j := fun j => by rw [hR]
  simp only [hR'] at ST SOM DRP TAK CLP ⊢
  obtain ⟨M, hM⟩ : ∃ M : Nat → Nat, M = fun j => 2 * 2 ^ j - 1 := ⟨_, rfl⟩
  have hM' : ∀ j, 2 * 2 ^ j - 1 = M j := fun j => by rw [hM]
  simp only [hM'] at ST BL TH LVN DRP TAK CLP MN1 hin
  obtain ⟨N, hN'⟩ : ∃ N : Nat → Nat, N = fun j => 2 ^ j := ⟨_, rfl⟩
  have hN2 : ∀ j, 2 ^ j = N j := fun j => by rw [hN']
  simp only [hN2] at SOM LVN DRP MN1 MN2 MN3 MN4 hi
  obtain ⟨BF, hBF⟩ : ∃ F, F = blankF t i := ⟨_, rfl⟩
  rw [← hBF] at BL ST TH
  obtain ⟨ml, hml⟩ : ∃ k, k = (memL t t.length).length := ⟨_, rfl⟩
  rw [← hml] at h1
  obtain ⟨a, n, c0, rfl⟩ : ∃ a n c, v = .slice a n c := by obtain ⟨a, c, e, _⟩ := h.sl; exact ⟨_, _, _, e⟩
  have HMB := Lib.hid MB
  have HME := Lib.hid ME
  have HML := Lib.hid hml.symm
  have HBL := Lib.hid BL
  have HST := Lib.hid ST
  have HTH := Lib.hid TH
  have HSOM := Lib.hid SOM
  have HLV := Lib.hid LVN
  have HDRP := Lib.hid DRP
  have HTAK := Lib.hid TAK
  have HCLP := Lib.hid CLP
  have HM1 := Lib.hid MN1
  have HM2 := Lib.hid MN2
  have HM3 := Lib.hid MN3
  have HM4 := Lib.hid MN4
  have HCS := Lib.hid CS
  have HCT := Lib.hid CT
  have HC0 := Lib.hid C0
  have HN0 := Lib.hid (show N 0 = 1 by rw [← hN2])
  have hm1 : ((ml : Int) == 1) = false := by rw [beq_eq_false_iff_ne]; omega
  have hi16 : i < 65536 := by have := MN3 d (Nat.le_refl _); omega
  have HTR := Lib.hid TR
  clear TR h hm hok MB ME BL ST TH SOM LVN DRP TAK CLP MN1 MN2 MN3 MN4 CS CT C0 hml hF hokF hlM hH hK hR hR' hM hM' hN' hN2 hBF hr hlen hN hl2d hhe h17 hk hmed hi
  go_enter Try.func16, Try.ntmps16
  go_wp2_with fail
  refine (HTR.out w (Below.refl _ _)).mono ?_
  rintro e w1 ⟨rfl, hb⟩
  have HB1 := Lib.hid hb
  clear hb
  go_wp2_with fail
  refine (HMB.out w1 HB1.out).mono ?_
  rintro e w3 ⟨rfl, hw3⟩
  obtain rfl := hw3.symm
  go_wp2_with fail
  refine (HME.out w1 HB1.out).mono ?_
  rintro e w2 ⟨vm, rfl, hom, hb⟩
  have HB2 := Lib.hid (HB1.out.trans (hb.mono HB1.out.size))
  obtain ⟨ma, mc, rfl⟩ : ∃ a c, vm = .slice a ml c := by obtain ⟨a, c, e, _⟩ := hom.rd; rw [ivs_len', HML.out] at e; exact ⟨a, c, e⟩
  clear hom hb
  go_wp2_with fail
  refine (HBL.out w2 HB2.out).mono ?_
  rintro e w4 ⟨g, cap, rfl, hcm, hcn, hwt⟩
  have hcap : cap ≤ 9223372036854775807 := by unfold maxLen at hcm; exact hcm
  have HST4 := Lib.hid (HST.out w4 w2 g cap HB2.out.size HB2.out hwt)
  have HTH4 := Lib.hid (HTH.out w4 w2 g cap hwt)
  clear hwt hcm
  obtain ⟨w9, hw9⟩ : ∃ w9, w9 = w4.setCells g (2 * i * 10) zeroC.toList := ⟨_, rfl⟩
  rw [← hw9] at HST4
  have HW9 := Lib.hid hw9
  have hjm : 2 * (i : Int) < (M d : Int) := by omega
  clear hw9
  go_wp2_with (refine wpList_store_mid rfl 45 (.tmp 29) (.tmp 28) rfl g (2 * i * 10) zeroC rfl rfl (by rw [zeroC_size]; exact HTH4.out) (by rw [zeroC_size]; exact node_info) zeroC_one ?_; rw [← HW9.out])
  refine (HLV.out w9 _ _ d (Nat.le_refl _)).mono ?_
  rintro e w5 ⟨rfl, hw5⟩
  obtain rfl := hw5.symm
  go_wp2_with fail
  go_loopg [6, 7] d (fun q ov nv wr => ov = .slice (some ⟨g, 0, none⟩) (M q) cap ∧ nv = .int .i64 (N q : Nat) ∧ q ≤ d ∧ M q ≤ cap ∧ K d = K q ∧ TreeR wr (.slice (some ⟨g, 0, none⟩) (M q) cap) (R q) ∧ Below w.heap.size w wr)
  case atStart => exact ⟨rfl, rfl, Nat.le_refl _, hcn, rfl, HST4.out.1, HST4.out.2⟩
  case round =>
    obtain ⟨rfl, rfl, hqd, hmc, hkk, htr, hb⟩ := hrel
    have HKK := Lib.hid hkk
    have HT := Lib.hid htr
    have HB := Lib.hid hb
    clear hkk htr hb
    cases gk with
    | zero =>
      have hn1 : N 0 = 1 := HN0.out
      have hg : decide ((N 0 : Int) > 1) = false := decide_eq_false (by omega)
      have hg2 : decide ((1 : Int) < (N 0 : Int)) = false := decide_eq_false (by omega)
      have HF := Lib.hid (HCLP.out wr g cap 0 HT.out hmc)
      have HKF := Lib.hid (HKK.out.trans HC0.out)
      have HCL := Lib.hid (clip_any g 0 (M 0) cap wr hmc hcap)
      go_wp2_with fail
      refine (HCL.out).mono ?_
      rintro e w6 ⟨rfl, hw6⟩
      obtain rfl := hw6.symm
      go_wp2_with fail
      go_ret2
      exact ⟨_, rfl, by rw [HKF.out]; exact HF.out, HB.out⟩
    | succ j =>
      have hm2 := HM2.out j
      have hm1a := HM1.out j
      have hm1b := HM1.out (j + 1)
      have hm3 := HM3.out (j + 1) hqd
      have hm4 := HM4.out j
      obtain ⟨n1, hn1⟩ : ∃ n, n = N (j + 1) := ⟨_, rfl⟩
      obtain ⟨m1, hm1'⟩ : ∃ n, n = M (j + 1) := ⟨_, rfl⟩
      have HN1 := Lib.hid hn1
      have HMM := Lib.hid hm1'
      have hs := HSOM.out wr (.slice (some ⟨g, N (j + 1) * 10, none⟩) (M (j + 1) - N (j + 1)) (cap - N (j + 1))) (j + 1) (HDRP.out wr g cap (j + 1) HT.out)
      rw [← hn1] at hm2 hm1b hm3 hs ⊢
      rw [← hm1'] at hm1b hmc hs ⊢
      have hMj : M j = n1 - 1 := by omega
      have HMJ := Lib.hid hMj
      have hg : decide ((n1 : Int) > 1) = true := decide_eq_true (by omega)
      have hg2 : decide ((1 : Int) < (n1 : Int)) = true := decide_eq_true (by omega)
      have hnm : n1 ≤ m1 := by omega
      have hnc : ¬ (cap = n1) := by omega
      have hnc2 : n1 ≤ cap := by omega
      have h2n : 2 ≤ n1 := by omega
      have HSM := Lib.hid hs
      have HM1B := Lib.hid hm1b
      clear hn1 hm1' hs hm2 hm1a hm1b hm4 hMj
      go_wp2_with fail
      refine (HSM.out).mono ?_
      rintro e w6 ⟨rfl, hb6⟩
      have HB6 := Lib.hid (HB.out.trans (hb6.mono HB.out.size))
      have HT6 := Lib.hid (HT.out.below hb6 (Nat.le_refl _))
      clear hb6
      cases hh : H (j + 1) with
      | true =>
        have HF := Lib.hid (show TreeR w6 (.slice (some ⟨g, 0, none⟩) m1 m1) (R (j + 1)) from by
          have := HCLP.out w6 g cap (j + 1) HT6.out (by rw [← HMM.out]; exact hmc)
          rw [← HMM.out] at this
          exact this)
        have HKF := Lib.hid (HKK.out.trans (HCT.out j hh))
        have HCL := Lib.hid (clip_any g 0 m1 cap w6 hmc hcap)
        clear hh
        go_wp2_with fail
        refine (HCL.out).mono ?_
        rintro e w7 ⟨rfl, hw7⟩
        obtain rfl := hw7.symm
        go_wp2_with fail
        go_ret2
        exact ⟨_, rfl, by rw [HKF.out]; exact HF.out, HB6.out⟩
      | false =>
        have HKF := Lib.hid (HKK.out.trans (HCS.out j hh))
        have hl := HLV.out w6 (some ⟨g, 0, none⟩) cap j (by omega)
        rw [HMJ.out] at hl
        have HL := Lib.hid hl
        have hn1c : n1 - 1 ≤ cap := by omega
        have hn1I : ((n1 - 1 : Nat) : Int) = (n1 : Int) - 1 := by omega
        clear hh hl
        go_wp2_with fail
        refine (HL.out).mono ?_
        rintro e w7 ⟨rfl, hw7⟩
        obtain rfl := hw7.symm
        go_wp2_with fail
        go_roundg j
        case measure => omega
        case rel =>
          refine ⟨by rw [HMJ.out], rfl, by omega, by rw [HMJ.out]; exact hn1c, HKF.out, ?_, HB6.out⟩
          exact HTAK.out w6 g cap j (by rw [← HMM.out]; exact hmc) HT6.out
end Go.Proofs.Ytlcmodbjbdfloaa
/- Walks: the reference's Set and Cut. -/
namespace Go.Proofs.Ytlcmodbjbdfloaa
open Go.RowKit WalkM WireM
set_option linter.unusedVariables false
theorem setF_leaf (t : List NodeD) (i : Nat) (y : NodeD) : setF t i y (2 * i) = y := by unfold setF; rw [if_pos rfl]
theorem setF_und (t : List NodeD) (y : NodeD) {d i x : Nat} (hd : d ≤ 16) (hi : 2 * i + 1 < 2 ^ (d + 1)) (hx1 : x + 1 < 2 ^ (d + 1)) (hx : x ≠ 2 * i) :
    setF t i y x = if undZ (2 * (i : Int)) (x : Int) = true then noNodeD else nd t x := by
  have e := und_leaf hd hi hx1 (by omega)
  rw [show ((2 * i : Nat) : Int) = 2 * (i : Int) by omega] at e
  rw [e]
  unfold setF
  rw [if_neg hx]
  by_cases c : x = anc (2 * i) (lev x)
  · rw [if_pos c, if_pos (decide_eq_true c)]
  · rw [if_neg c, if_neg (by rw [decide_eq_false c]; decide)]
set_option maxRecDepth 100000 in
set_option maxHeartbeats 16000000 in
theorem rset_any (v : Value) (t : List NodeD) (Y : NodeD) (c : Array Value) (i d : Nat) (w : World) (h : TreeR w v t) (hy : NodeC w Y c) (hs : medT t = true) (hlen : t.length + 1 = 2 * 2 ^ d) (hd : d ≤ 15) (hi : i < 2 ^ d) :
    Calls Try.prog 18 #[v, .int .i64 (i : Nat), .agg c] w fun e w' => ∃ v', e = .returned v' ∧ TreeR w' v' (listT t.length (setF t i Y)) ∧ Below w.heap.size w w' := by
  have h17 := two_pow_le (show d + 1 ≤ 16 by omega)
  have e2 : 2 ^ (d + 1) = 2 * 2 ^ d := by rw [Nat.pow_succ]; omega
  have hmed := medT_len hs
  have hi1 : 2 * i + 1 < 2 ^ (d + 1) := by omega
  have AB := fun (x : Nat) (W : World) => rabove_any x i W (by omega)
  have FLF := setF_leaf t i Y
  have FUN := fun (x : Nat) (hx1 : x < t.length) (hx : x ≠ 2 * i) => setF_und (d := d) t Y (by omega) hi1 (show x + 1 < 2 ^ (d + 1) by omega) hx
  have FIN := fun (W w0 : World) (v1 : Value) (h1 : TreeN w0 W v1 t.length (setF t i Y)) (hb : Below w0.heap.size w0 W) => h1.r hb
  obtain ⟨kd0, sd0, j1, j2, j3, j4, j5, j6, j7, j8, g1, g2, g3, g4, g5, g6, g7, g8, o1, o2, o3, o4, o5, o6, o7, o8, hce, -, -, -⟩ := hy.flat
  subst hce
  rw [← FLF] at hy
  obtain ⟨ta, n0, rfl, hc, hc2⟩ := h.sl
  have htp : 0 < t.length := by have := pow_pos' d; omega
  obtain ⟨b, off, lb, ee1, rfl, hbl, -, -, -⟩ := h.at (i := 0) htp
  have RA := fun (W : World) (hw : Below w.heap.size w W) (x : Nat) (hx : x < t.length) => (show ∃ cs, NodeC w (nd t x) cs ∧ W.rangeAt b (off + x * 10) cs.toList from by
    obtain ⟨b', off', cs, e, hlt, hnc, hra⟩ := h.node hx
    simp only [Option.some.injEq, Addr.mk.injEq, and_true] at e
    obtain ⟨rfl, rfl⟩ := e
    exact ⟨cs, hnc, rangeAt_below hra hw hlt⟩)
  obtain ⟨T, hT⟩ : ∃ T, T = nd t := ⟨_, rfl⟩
  rw [← hT] at RA FUN
  obtain ⟨F, hF⟩ : ∃ F, F = setF t i Y := ⟨_, rfl⟩
  rw [← hF] at hy FUN FIN ⊢
  obtain ⟨n, hn⟩ : ∃ n, n = t.length := ⟨_, rfl⟩
  rw [← hn] at RA FUN FIN hc hlen hmed ⊢
  obtain ⟨OUTT, hOUT⟩ : ∃ T, T = listT n F := ⟨_, rfl⟩
  rw [← hOUT] at FIN ⊢
  have hi16 : i < 65536 := by omega
  have HAB := Lib.hid AB
  have HFUN := Lib.hid FUN
  have HFIN := Lib.hid FIN
  have HYC := Lib.hid hy
  have HRA0 := Lib.hid RA
  clear AB FUN FIN hy RA FLF hOUT hF hT hn hbl hi1 e2 h17 hlen h hs hd hi htp
  go_enter Try.func18, Try.ntmps18
  go_wp2_with fail
  have HBK0 := Lib.hid (Blk.new w 45 #[.int .u8 (kd0 : Nat), .slice o1 j1 g1, .slice o2 j2 g2, .slice o3 j3 g3, .int .u8 (sd0 : Nat), .slice o4 j4 g4, .slice o5 j5 g5, .slice o6 j6 g6, .slice o7 j7 g7, .slice o8 j8 g8])
  have HB0 := Lib.hid ((Below.refl w.heap.size w).alloc (Nat.le_refl _) (.cells #[.int .u8 (kd0 : Nat), .slice o1 j1 g1, .slice o2 j2 g2, .slice o3 j3 g3, .int .u8 (sd0 : Nat), .slice o4 j4 g4, .slice o5 j5 g5, .slice o6 j6 g6, .slice o7 j7 g7, .slice o8 j8 g8] 45))
  generalize hw0 : w.alloc (.cells #[.int .u8 (kd0 : Nat), .slice o1 j1 g1, .slice o2 j2 g2, .slice o3 j3 g3, .int .u8 (sd0 : Nat), .slice o4 j4 g4, .slice o5 j5 g5, .slice o6 j6 g6, .slice o7 j7 g7, .slice o8 j8 g8] 45) = w0 at HBK0 HB0 ⊢
  clear hw0
  have HYC0 := Lib.hid (HYC.out.below HB0.out (Nat.le_refl _))
  have HRA1 := Lib.hid (fun (W : World) (hw : Below w0.heap.size w0 W) (x : Nat) (hx : x < n) => (show ∃ cs, NodeC w0 (T x) cs ∧ W.rangeAt b (off + x * 10) cs.toList from by
    obtain ⟨cs, h1, h2⟩ := HRA0.out W (HB0.out.trans (hw.mono HB0.out.size)) x hx
    exact ⟨cs, h1.below HB0.out (Nat.le_refl _), h2⟩))
  have HFIN0 := Lib.hid (fun (W : World) (v1 : Value) (h1 : TreeN w0 W v1 n F) (hb : Below w0.heap.size w0 W) => (show TreeR W v1 OUTT ∧ Below w.heap.size w W from ⟨HFIN.out W w0 v1 h1 hb, HB0.out.trans (hb.mono HB0.out.size)⟩))
  go_loopg [7, 8] n (fun q ov iv wr => ∃ x : Nat, x + q = n ∧ iv = .int .i64 (x : Nat) ∧ TreeN w0 wr ov x F ∧ Below w0.heap.size w0 wr)
  case atStart => exact ⟨0, by omega, rfl, TreeN.nil _ _ _, Below.refl _ _⟩
  case round =>
    obtain ⟨x, hx, rfl, htn, hb⟩ := hrel
    have HX := Lib.hid hx
    have HB := Lib.hid hb
    obtain ⟨xs, hown, hxl, hnp⟩ := htn
    have HO := Lib.hid hown
    have HXL := Lib.hid hxl
    have HNP := Lib.hid hnp
    by_cases hlt : x < n
    · have hlt' : decide (x < n) = true := decide_eq_true hlt
      have hltI : (x : Int) < (n : Int) := by omega
      have hltD : decide ((x : Int) < (n : Int)) = true := decide_eq_true hltI
      have hw1 := HB.out.size
      clear hx hown hxl hnp hb
      by_cases hxi : x = 2 * i
      · have hxe : ((x : Int) == 2 * (i : Int)) = true := by rw [beq_iff_eq]; omega
        have HNX := Lib.hid (show NodeC w0 (F x) #[.int .u8 (kd0 : Nat), .slice o1 j1 g1, .slice o2 j2 g2, .slice o3 j3 g3, .int .u8 (sd0 : Nat), .slice o4 j4 g4, .slice o5 j5 g5, .slice o6 j6 g6, .slice o7 j7 g7, .slice o8 j8 g8] by rw [hxi]; exact HYC0.out)
        have HBW := HB
        have HNPW := HNP
        have HOW := HO
        clear hxi
        have HONE := Lib.hid (show ∀ u ∈ ([.int .u8 (kd0 : Nat), .slice o1 j1 g1, .slice o2 j2 g2, .slice o3 j3 g3, .int .u8 (sd0 : Nat), .slice o4 j4 g4, .slice o5 j5 g5, .slice o6 j6 g6, .slice o7 j7 g7, .slice o8 j8 g8] : List Value), u.oneCell' = true from NodeP.one (w0 := w0) (W := w0) (d := F x) (.inl HNX.out) (Below.refl _ _))
        have hw2 := HBW.out.size
        go_wp2_with (first | (at_builtin; refine wpList_pushG rfl (.tmp 19) (.tmp 21) 22 rfl w0.heap.size 45 _ 10 208 treesE _ x _ rfl (HOW.out.alloc _) wr.heap.size [.int .u8 (kd0 : Nat), .slice o1 j1 g1, .slice o2 j2 g2, .slice o3 j3 g3, .int .u8 (sd0 : Nat), .slice o4 j4 g4, .slice o5 j5 g5, .slice o6 j6 g6, .slice o7 j7 g7, .slice o8 j8 g8] rfl rfl ?c1a HONE.out ?c2a ?c3a ?_) | (refine wpList_load_at rfl 45 (.tmp 5) rfl w.heap.size rfl 45 #[.int .u8 (kd0 : Nat), .slice o1 j1 g1, .slice o2 j2 g2, .slice o3 j3 g3, .int .u8 (sd0 : Nat), .slice o4 j4 g4, .slice o5 j5 g5, .slice o6 j6 g6, .slice o7 j7 g7, .slice o8 j8 g8] (0, 0) _ (HBK0.out.below HB.out HBK0.out.lt) Try.underlying45 rfl (by kernel_rfl) ?_))
        case c1a => exact cells_new (cs := [.int .u8 (kd0 : Nat), .slice o1 j1 g1, .slice o2 j2 g2, .slice o3 j3 g3, .int .u8 (sd0 : Nat), .slice o4 j4 g4, .slice o5 j5 g5, .slice o6 j6 g6, .slice o7 j7 g7, .slice o8 j8 g8]) rfl
        case c2a => omega
        case c3a => simp; omega
        rintro v' w3 hown3 hg3 hb3
        have HT1 := Lib.hid (TreeN.snoc (F := F) (w0 := w0) (HOW.out.alloc (.cells #[.int .u8 (kd0 : Nat), .slice o1 j1 g1, .slice o2 j2 g2, .slice o3 j3 g3, .int .u8 (sd0 : Nat), .slice o4 j4 g4, .slice o5 j5 g5, .slice o6 j6 g6, .slice o7 j7 g7, .slice o8 j8 g8] 45)) HXL.out (fun j hj => (HNPW.out j hj).below ((Below.refl _ _).alloc (Nat.le_refl _) _)) (ys := [.int .u8 (kd0 : Nat), .slice o1 j1 g1, .slice o2 j2 g2, .slice o3 j3 g3, .int .u8 (sd0 : Nat), .slice o4 j4 g4, .slice o5 j5 g5, .slice o6 j6 g6, .slice o7 j7 g7, .slice o8 j8 g8]) rfl (.inl HNX.out) hown3 hg3)
        have hbw := (HBW.out.alloc HBW.out.size (.cells #[.int .u8 (kd0 : Nat), .slice o1 j1 g1, .slice o2 j2 g2, .slice o3 j3 g3, .int .u8 (sd0 : Nat), .slice o4 j4 g4, .slice o5 j5 g5, .slice o6 j6 g6, .slice o7 j7 g7, .slice o8 j8 g8] 45))
        have HB1 := Lib.hid (hbw.trans hb3)
        clear hown3 hg3 hb3 hbw
        go_wp2_with fail
        go_roundg (gk - 1)
        case measure => have := HX.out; omega
        case rel => exact ⟨x + 1, by have := HX.out; omega, by go_num, HT1.out, HB1.out⟩
      · have hxe : ((x : Int) == 2 * (i : Int)) = false := by rw [beq_eq_false_iff_ne]; omega
        have hxe2 : ¬ ((x : Int) = 2 * (i : Int)) := by omega
        have AB := fun (W : World) => HAB.out x W
        simp only [decide_eq_true hxi, Bool.true_and] at AB
        have hfu := HFUN.out x hlt hxi
        obtain ⟨U, hU⟩ : ∃ U, U = undZ (2 * (i : Int)) (x : Int) := ⟨_, rfl⟩
        rw [← hU] at hfu
        simp only [← hU] at AB
        have HAB1 := Lib.hid AB
        have HFU := Lib.hid hfu
        clear AB hU hfu hxi
        go_wp2_with fail
        refine (HAB1.out _).mono ?_
        rintro e w2 ⟨rfl, hb2⟩
        have HBW := Lib.hid (HB.out.trans (hb2.mono HB.out.size))
        have HNPW := Lib.hid (fun j (hj : j < x) => (HNP.out j hj).below hb2)
        have HOW := Lib.hid (HO.out.below hb2 (Nat.le_refl _))
        clear hb2
        cases U with
        | true =>
          have HNX := Lib.hid (show NodeC w0 (F x) #[.int .u8 0, .slice none 0 0, .slice none 0 0, .slice none 0 0, .int .u8 0, .slice none 0 0, .slice none 0 0, .slice none 0 0, .slice none 0 0, .slice none 0 0] by rw [HFU.out, if_pos rfl]; exact noNode_c w0)
          have HONE := Lib.hid (show ∀ u ∈ ([.int .u8 0, .slice none 0 0, .slice none 0 0, .slice none 0 0, .int .u8 0, .slice none 0 0, .slice none 0 0, .slice none 0 0, .slice none 0 0, .slice none 0 0] : List Value), u.oneCell' = true from NodeP.one (w0 := w0) (W := w0) (d := F x) (.inl HNX.out) (Below.refl _ _))
          have hw2 := HBW.out.size
          go_wp2_with (first | (at_builtin; refine wpList_pushG rfl (.tmp 26) (.tmp 28) 22 rfl w0.heap.size 45 _ 10 208 treesE _ x _ rfl (HOW.out.alloc _) w2.heap.size [.int .u8 0, .slice none 0 0, .slice none 0 0, .slice none 0 0, .int .u8 0, .slice none 0 0, .slice none 0 0, .slice none 0 0, .slice none 0 0, .slice none 0 0] rfl rfl ?c1b HONE.out ?c2b ?c3b ?_))
          case c1b => exact cells_new (cs := [.int .u8 0, .slice none 0 0, .slice none 0 0, .slice none 0 0, .int .u8 0, .slice none 0 0, .slice none 0 0, .slice none 0 0, .slice none 0 0, .slice none 0 0]) rfl
          case c2b => omega
          case c3b => simp; omega
          rintro v' w3 hown3 hg3 hb3
          have HT1 := Lib.hid (TreeN.snoc (F := F) (w0 := w0) (HOW.out.alloc (.cells #[.int .u8 0, .slice none 0 0, .slice none 0 0, .slice none 0 0, .int .u8 0, .slice none 0 0, .slice none 0 0, .slice none 0 0, .slice none 0 0, .slice none 0 0] 45)) HXL.out (fun j hj => (HNPW.out j hj).below ((Below.refl _ _).alloc (Nat.le_refl _) _)) (ys := [.int .u8 0, .slice none 0 0, .slice none 0 0, .slice none 0 0, .int .u8 0, .slice none 0 0, .slice none 0 0, .slice none 0 0, .slice none 0 0, .slice none 0 0]) rfl (.inl HNX.out) hown3 hg3)
          have hbw := (HBW.out.alloc HBW.out.size (.cells #[.int .u8 0, .slice none 0 0, .slice none 0 0, .slice none 0 0, .int .u8 0, .slice none 0 0, .slice none 0 0, .slice none 0 0, .slice none 0 0, .slice none 0 0] 45))
          have HB1 := Lib.hid (hbw.trans hb3)
          clear hown3 hg3 hb3 hbw
          go_wp2_with fail
          go_roundg (gk - 1)
          case measure => have := HX.out; omega
          case rel => exact ⟨x + 1, by have := HX.out; omega, by go_num, HT1.out, HB1.out⟩
        | false =>
          obtain ⟨cs, hcs, hra⟩ := HRA1.out w2 HBW.out x hlt
          have HN := Lib.hid hcs
          obtain ⟨kd, sd, k1, k2, k3, k4, k5, k6, k7, k8, d1, d2, d3, d4, d5, f1, f2, f3, n1, n2, n3, n4, n5, m1, m2, m3, rfl, -, -, -⟩ := hcs.flat
          have HRA := Lib.hid hra
          have HNX := Lib.hid (show NodeC w0 (F x) #[.int .u8 (kd : Nat), .slice n1 k1 d1, .slice n2 k2 d2, .slice n3 k3 d3, .int .u8 (sd : Nat), .slice n4 k4 d4, .slice n5 k5 d5, .slice m1 k6 f1, .slice m2 k7 f2, .slice m3 k8 f3] by rw [HFU.out, if_neg (by decide)]; exact HN.out)
          clear hcs hra
          have HONE := Lib.hid (show ∀ u ∈ ([.int .u8 (kd : Nat), .slice n1 k1 d1, .slice n2 k2 d2, .slice n3 k3 d3, .int .u8 (sd : Nat), .slice n4 k4 d4, .slice n5 k5 d5, .slice m1 k6 f1, .slice m2 k7 f2, .slice m3 k8 f3] : List Value), u.oneCell' = true from NodeP.one (w0 := w0) (W := w0) (d := F x) (.inl HNX.out) (Below.refl _ _))
          have hw2 := HBW.out.size
          go_wp2_with (first | (at_builtin; refine wpList_pushG rfl (.tmp 30) (.tmp 35) 22 rfl w0.heap.size 45 _ 10 208 treesE _ x _ rfl (HOW.out.alloc _) w2.heap.size [.int .u8 (kd : Nat), .slice n1 k1 d1, .slice n2 k2 d2, .slice n3 k3 d3, .int .u8 (sd : Nat), .slice n4 k4 d4, .slice n5 k5 d5, .slice m1 k6 f1, .slice m2 k7 f2, .slice m3 k8 f3] rfl rfl ?c1c HONE.out ?c2c ?c3c ?_) | (refine wpList_load_mid rfl 45 (.tmp 33) rfl b (off + x * 10) rfl [.int .u8 (kd : Nat), .slice n1 k1 d1, .slice n2 k2 d2, .slice n3 k3 d3, .int .u8 (sd : Nat), .slice n4 k4 d4, .slice n5 k5 d5, .slice m1 k6 f1, .slice m2 k7 f2, .slice m3 k8 f3] _ HRA.out Try.underlying45 rfl node_info ?_))
          case c1c => exact cells_new (cs := [.int .u8 (kd : Nat), .slice n1 k1 d1, .slice n2 k2 d2, .slice n3 k3 d3, .int .u8 (sd : Nat), .slice n4 k4 d4, .slice n5 k5 d5, .slice m1 k6 f1, .slice m2 k7 f2, .slice m3 k8 f3]) rfl
          case c2c => omega
          case c3c => simp; omega
          rintro v' w3 hown3 hg3 hb3
          have HT1 := Lib.hid (TreeN.snoc (F := F) (w0 := w0) (HOW.out.alloc (.cells #[.int .u8 (kd : Nat), .slice n1 k1 d1, .slice n2 k2 d2, .slice n3 k3 d3, .int .u8 (sd : Nat), .slice n4 k4 d4, .slice n5 k5 d5, .slice m1 k6 f1, .slice m2 k7 f2, .slice m3 k8 f3] 45)) HXL.out (fun j hj => (HNPW.out j hj).below ((Below.refl _ _).alloc (Nat.le_refl _) _)) (ys := [.int .u8 (kd : Nat), .slice n1 k1 d1, .slice n2 k2 d2, .slice n3 k3 d3, .int .u8 (sd : Nat), .slice n4 k4 d4, .slice n5 k5 d5, .slice m1 k6 f1, .slice m2 k7 f2, .slice m3 k8 f3]) rfl (.inl HNX.out) hown3 hg3)
          have hbw := (HBW.out.alloc HBW.out.size (.cells #[.int .u8 (kd : Nat), .slice n1 k1 d1, .slice n2 k2 d2, .slice n3 k3 d3, .int .u8 (sd : Nat), .slice n4 k4 d4, .slice n5 k5 d5, .slice m1 k6 f1, .slice m2 k7 f2, .slice m3 k8 f3] 45))
          have HB1 := Lib.hid (hbw.trans hb3)
          clear hown3 hg3 hb3 hbw
          go_wp2_with fail
          go_roundg (gk - 1)
          case measure => have := HX.out; omega
          case rel => exact ⟨x + 1, by have := HX.out; omega, by go_num, HT1.out, HB1.out⟩
    · obtain rfl : x = n := by omega
      have hlt' : decide (x < x) = false := decide_eq_false hlt
      have HF := Lib.hid (HFIN0.out wr _ ⟨xs, hown, hxl, hnp⟩ hb)
      clear hx hown hxl hnp hb hlt
      go_wp2_with fail
      go_ret
      exact ⟨_, rfl, HF.out.1, HF.out.2⟩
theorem ivs_getS {k : IntKind} {L : List Int} {r : Nat} (h : r < L.length) : (ivs k L)[r]? = some (.int k (L.getD r 0)) := by simp [ivs, List.getD_eq_getElem?_getD, h]
theorem rmemL_rise (t : List NodeD) (m : Nat) : (rmemL t m).Pairwise (· < ·) := by
  unfold rmemL
  rw [List.pairwise_map]
  exact ((List.pairwise_lt_range (n := m)).filter _).imp fun h => by omega
theorem rmemL_last {t : List NodeD} {m : Nat} (h : rmemL t m ≠ []) : ∃ L : Nat, (rmemL t m).getD ((rmemL t m).length - 1) 0 = (L : Int) ∧ ((L : Nat) : Int) ∈ rmemL t m ∧ ∀ k : Nat, ((k : Nat) : Int) ∈ rmemL t m → k ≤ L := by
  have hp := List.length_pos_iff.2 h
  have e : (rmemL t m).getD ((rmemL t m).length - 1) 0 = (rmemL t m)[(rmemL t m).length - 1] := by simp [List.getD_eq_getElem?_getD, List.getElem?_eq_getElem (show (rmemL t m).length - 1 < (rmemL t m).length by omega)]
  have hmem : (rmemL t m)[(rmemL t m).length - 1] ∈ rmemL t m := List.getElem_mem _
  have hnn : ∃ L : Nat, (rmemL t m)[(rmemL t m).length - 1] = (L : Int) := by
    rcases Int.lt_or_le ((rmemL t m)[(rmemL t m).length - 1]) 0 with hh | hh
    · exact absurd hmem (mem_neg t m hh)
    · exact ⟨_, (Int.toNat_of_nonneg hh).symm⟩
  obtain ⟨L, hL⟩ := hnn
  refine ⟨L, by rw [e, hL], by rw [← hL]; exact hmem, fun k hk => ?_⟩
  obtain ⟨j, hj, hjk⟩ := List.getElem_of_mem hk
  by_cases ej : j = (rmemL t m).length - 1
  · subst ej
    rw [hjk] at hL
    omega
  · have := (List.pairwise_iff_getElem.1 (rmemL_rise t m)) j ((rmemL t m).length - 1) hj (by omega) (by omega)
    rw [hjk, hL] at this
    omega
set_option maxRecDepth 100000 in
set_option maxHeartbeats 8000000 in
theorem rcut_any (v : Value) (t : List NodeD) (d L : Nat) (w : World) (h : TreeR w v t) (hok : TreeOk t) (hlen : t.length + 1 = 2 * 2 ^ d) (hd : d ≤ 9) (hne : rmemL t (2 ^ d) ≠ []) (hL : (rmemL t (2 ^ d)).getD ((rmemL t (2 ^ d)).length - 1) 0 = (L : Int)) (hLd : L < 2 ^ d) :
    Calls Try.prog 20 #[v] w fun e w' => ∃ v' k, e = .returned v' ∧ k ≤ d ∧ L < 2 ^ k ∧ (k = 0 ∨ 2 ^ k ≤ 2 * L) ∧ TreeR w' v' (t.take (2 * 2 ^ k - 1)) ∧ Below w.heap.size w w' := by
  have hpd : 2 ^ d ≤ 512 := Nat.le_trans (Nat.pow_le_pow_right (show 0 < 2 by omega) hd) (by decide)
  have hml := rmemL_len t (2 ^ d)
  have ME := rmembers_any v t (2 ^ d - 1) w h hok (by omega) (by omega)
  rw [show 2 ^ d - 1 + 1 = 2 ^ d by have := pow_pos' d; omega] at ME
  obtain ⟨RL, hRL⟩ : ∃ R, R = rmemL t (2 ^ d) := ⟨_, rfl⟩
  rw [← hRL] at ME hne hL hml
  have hp : 0 < RL.length := List.length_pos_iff.2 hne
  have TB := fun (W : World) (hw : Below w.heap.size w W) => h.below hw (Nat.le_refl _)
  obtain ⟨a, c, rfl, hc, hc2⟩ := h.sl
  have TK := fun (W : World) (hw : Below w.heap.size w W) (k : Nat) (hk : k ≤ d) => (show TreeR W (.slice a (2 * 2 ^ k - 1) c) (t.take (2 * 2 ^ k - 1)) from by
    have := Nat.pow_le_pow_right (show 0 < 2 by omega) hk
    exact (TB W hw).take _ (by omega) (by omega) (Nat.le_refl _))
  have KD := fun (k : Nat) (hk : k ≤ d) => (show 2 ^ k ≤ 2 ^ d from Nat.pow_le_pow_right (by omega) hk)
  have KS := fun (k : Nat) => (show 2 ^ (k + 1) = 2 * 2 ^ k by rw [Nat.pow_succ]; omega)
  have KL := fun (k : Nat) (hk : k ≤ d) (h : 2 ^ k ≤ L) => (show k < d from by
    rcases Nat.lt_or_ge k d with h1 | h1
    · exact h1
    · have : k = d := by omega
      rw [this] at h; omega)
  have KP := fun (k : Nat) => pow_pos' k
  obtain ⟨N, hN⟩ : ∃ N : Nat → Nat, N = fun k => 2 ^ k := ⟨_, rfl⟩
  have hN' : ∀ k, 2 ^ k = N k := fun k => by rw [hN]
  have N0 : N 0 = 1 := by rw [← hN']
  simp only [hN'] at TK KD KS KL KP hpd hlen hLd ⊢
  obtain ⟨n, hn⟩ : ∃ n, n = t.length := ⟨_, rfl⟩
  rw [← hn] at ME hc hlen ⊢
  obtain ⟨ml, hmle⟩ : ∃ k, k = RL.length := ⟨_, rfl⟩
  rw [← hmle] at hp hL hml
  have hnd9 : N d ≤ 512 := hpd
  have HME := Lib.hid ME
  have HTK := Lib.hid TK
  have HKD := Lib.hid KD
  have HKS := Lib.hid KS
  have HKL := Lib.hid KL
  have HKP := Lib.hid KP
  have HN0 := Lib.hid N0
  have HLEN := Lib.hid hlen
  have HMLE := Lib.hid hmle
  have HLG := Lib.hid (show (ivs .i64 RL)[ml - 1]? = some (.int .i64 (L : Nat)) by rw [ivs_getS (by omega), hL])
  have hml2 : ml ≤ 512 := by rw [hN'] at hml; omega
  have hm0 : decide ((ml : Int) > 0) = true := decide_eq_true (by omega)
  have hm0' : decide ((0 : Int) < (ml : Int)) = true := decide_eq_true (by omega)
  clear ME TB TK KD KS KL KP N0 hlen hmle hL hN hN' hRL hn hok h hne hpd hml
  go_enter Try.func20, Try.ntmps20
  go_wp2_with fail
  refine (HME.out).mono ?_
  rintro e w1 ⟨v1, rfl, hown, hb⟩
  have HB1 := Lib.hid hb
  have hrd := hown.rd
  obtain ⟨ma, mc, rfl⟩ : ∃ a c, v1 = .slice a ml c := by obtain ⟨a, c, e, _⟩ := hrd; rw [ivs_len', ← HMLE.out] at e; exact ⟨a, c, e⟩
  obtain ⟨bm, om, rfl, hbm, cm⟩ := hrd.at3 (HLG.out)
  have hm2 : ((ml : Int) - 1).toNat = ml - 1 := by omega
  have hm3 : (0 : Int) ≤ (ml : Int) - 1 := by omega
  clear hb hown hrd
  go_wp2_with fail
  go_loopg [4] (d + 1) (fun q nv wr => ∃ k, k + q = d + 1 ∧ 1 ≤ q ∧ nv = .int .i64 (N k : Nat) ∧ (k = 0 ∨ N k ≤ 2 * L) ∧ wr = w1)
  case atStart => exact ⟨0, by omega, by omega, by rw [HN0.out]; rfl, .inl rfl, rfl⟩
  case round =>
    obtain ⟨k, hk, hq, rfl, hkl, rfl⟩ := hrel
    have HK := Lib.hid hk
    have hkd := HKD.out k (by omega)
    have hkp := HKP.out k
    have HKK := Lib.hid hkl
    clear hkl
    obtain ⟨nk, hnk⟩ : ∃ x, x = N k := ⟨_, rfl⟩
    rw [← hnk] at hkd hkp ⊢
    have HNK := Lib.hid hnk
    clear hnk
    by_cases hle : nk ≤ L
    · have hleD : decide ((nk : Int) ≤ (L : Int)) = true := decide_eq_true (by omega)
      have hleD2 : decide (nk ≤ L) = true := decide_eq_true hle
      have HKS1 := Lib.hid (HKS.out k)
      have HKL1 := Lib.hid (HKL.out k (by have := HK.out; omega) (by rw [← HNK.out]; exact hle))
      clear hk
      go_wp2_with fail
      go_roundg (gk - 1)
      case measure => omega
      case rel =>
        have h1 := HKS1.out
        have h2 := HKL1.out
        have h3 := HK.out
        have h4 := HNK.out
        refine ⟨k + 1, by omega, by omega, ?_, .inr (by omega), rfl⟩
        rw [h1, ← h4]
        go_num
    · have hleD : decide ((nk : Int) ≤ (L : Int)) = false := decide_eq_false (by omega)
      have hleD2 : decide (nk ≤ L) = false := decide_eq_false hle
      have HT := Lib.hid (HTK.out wr HB1.out k (by have := HK.out; omega))
      have hT := HT.out
      rw [← HNK.out] at hT
      have HT2 := Lib.hid hT
      have hkn : 2 * nk - 1 ≤ n := by have := HLEN.out; omega
      have hkc : 2 * nk - 1 ≤ c := by omega
      have hkT : (2 * (nk : Int) - 1).toNat = 2 * nk - 1 := by omega
      have h0 : (0 : Int) ≤ 2 * (nk : Int) - 1 := by omega
      clear hk hT
      go_wp2_with fail
      go_ret
      exact ⟨_, k, rfl, by have := HK.out; omega, by rw [← HNK.out]; omega, by rw [← HNK.out]; have := HKK.out; rw [← HNK.out] at this; exact this, by rw [← HNK.out]; exact HT2.out, HB1.out⟩
end Go.Proofs.Ytlcmodbjbdfloaa
/- Walks: which leaves are small, and right; a tree is the same as itself. -/
namespace Go.Proofs.Ytlcmodbjbdfloaa
open Go.RowKit WalkM WireM
set_option linter.unusedVariables false
theorem sameLB_refl (d : LeafD) : sameLB d d = true := by simp [sameLB]
theorem sameNB_refl (d : NodeD) : sameNB d d = true := by simp [sameNB, sameLB_refl]
theorem sameT_refl (t : List NodeD) : sameT t t = true := sameT_yes rfl fun i _ => sameNB_refl _
set_option maxRecDepth 100000 in
set_option maxHeartbeats 4000000 in
theorem smallLeaf_any (d : LeafD) (c : Array Value) (w : World) (h : LeafC w d c) :
    Calls Try.prog 9 #[.agg c] w fun e w' => e = .returned (.bool (smallB ⟨0, d, noParD⟩)) ∧ Below w.heap.size w w' := by
  have SM := fun (c : Array Value) (W : World) (hw : NodeC W ⟨0, d, noParD⟩ c) => small_nodeC ⟨0, d, noParD⟩ c W hw
  obtain ⟨a1, c1, a2, c2, a3, c3, a4, c4, a5, c5, rfl, h1, h2, h3, h4, h5⟩ := h
  have NC := fun (W : World) (hw : Below w.heap.size w W) => (show NodeC W ⟨0, d, noParD⟩ #[.int .u8 0, .slice a1 d.box.length c1, .slice a2 d.sign.length c2, .slice a3 d.ident.length c3, .int .u8 (d.source : Nat), .slice a4 d.par.length c4, .slice a5 d.sig.length c5, .slice none 0 0, .slice none 0 0, .slice none 0 0] from
    ⟨a1, c1, a2, c2, a3, c3, a4, c4, a5, c5, none, 0, none, 0, none, 0, rfl, h1.below hw (Nat.le_refl _), h2.below hw (Nat.le_refl _), h3.below hw (Nat.le_refl _), h4.below hw (Nat.le_refl _), h5.below hw (Nat.le_refl _), (Own.nil W 0 5).rd, (Own.nil W 0 5).rd, (Own.nil W 0 3).rd⟩)
  obtain ⟨R, hR⟩ : ∃ R, R = smallB ⟨0, d, noParD⟩ := ⟨_, rfl⟩
  rw [← hR] at SM ⊢
  obtain ⟨l1, hl1⟩ : ∃ x, x = d.box.length := ⟨_, rfl⟩
  obtain ⟨l2, hl2⟩ : ∃ x, x = d.sign.length := ⟨_, rfl⟩
  obtain ⟨l3, hl3⟩ : ∃ x, x = d.ident.length := ⟨_, rfl⟩
  obtain ⟨l4, hl4⟩ : ∃ x, x = d.par.length := ⟨_, rfl⟩
  obtain ⟨l5, hl5⟩ : ∃ x, x = d.sig.length := ⟨_, rfl⟩
  obtain ⟨s, hsr⟩ : ∃ s, s = d.source := ⟨_, rfl⟩
  rw [← hl1, ← hl2, ← hl3, ← hl4, ← hl5, ← hsr] at NC ⊢
  have HSM := Lib.hid SM
  have HNC := Lib.hid NC
  have HBA := Lib.hid ((Below.refl w.heap.size w).alloc (Nat.le_refl _) (.cells #[.slice a1 l1 c1, .slice a2 l2 c2, .slice a3 l3 c3, .int .u8 (s : Nat), .slice a4 l4 c4, .slice a5 l5 c5] 25))
  clear SM NC h1 h2 h3 h4 h5 hl1 hl2 hl3 hl4 hl5 hsr hR
  go_enter Try.func9, Try.ntmps9
  go_wp2_with fail
  refine (HSM.out _ _ (HNC.out _ ?_)).mono ?_
  · first | exact HBA.out | exact Below.refl _ _
  rintro e w2 ⟨rfl, hb⟩
  go_wp2_with fail
  go_ret
  exact ⟨rfl, by first | exact hb | exact HBA.out.trans (hb.mono HBA.out.size)⟩
theorem leafOk_small {d : LeafD} (h : leafOkB d = true) : SmallL d := by
  unfold leafOkB rlB at h
  have := of_decide_eq_true h
  unfold SmallL
  omega
theorem insL_bd {L : List Int} {x : Int} {a b : Int} (h : ∀ u ∈ L, a ≤ u ∧ u ≤ b) (hx : a ≤ x ∧ x ≤ b) : ∀ u ∈ insL L x, a ≤ u ∧ u ≤ b := by
  intro u hu
  unfold insL at hu
  simp only [List.mem_append, List.mem_filter, List.mem_singleton] at hu
  rcases hu with (⟨h1, _⟩ | rfl) | ⟨h1, _⟩
  · exact h u h1
  · exact hx
  · exact h u h1
theorem held_ok {d : LeafD} (h : LeafOk d) : NodeOk (heldD d) := by
  constructor <;> first | exact h.source | exact h.box | exact h.sign | exact h.ident | exact h.par | exact h.sig | simp [heldD, noParD]
theorem addF_ok {t : List NodeD} {l : LeafD} (hok : TreeOk t) (hl : LeafOk l) {i m : Nat} (hi : i ≤ 65536) : TreeOk (listT m (addF t l i)) := by
  refine listT_ok fun x _ => ?_
  unfold addF
  split
  · exact held_ok hl
  · split
    · have h := hok.nd x
      constructor <;> first | exact h.kind | exact h.source | exact h.box | exact h.sign | exact h.ident | exact h.lpar | exact h.par | exact h.sig | exact h.pbox | exact h.hash | exact insL_bd h.late ⟨by omega, by omega⟩ | exact insL_bd h.late (by omega)
    · exact hok.nd x
theorem rrightLeafT_any (d : LeafD) (c : Array Value) (w : World) (h : LeafC w d c) :
    Calls Try.prog 12 #[.agg c] w fun e w' => e = .returned (.bool (leafOkB d)) ∧ Below w.heap.size w w' := by
  obtain ⟨a1, c1, a2, c2, a3, c3, a4, c4, a5, c5, rfl, -⟩ := h
  exact rrightLeaf_any a1 a2 a3 a4 a5 _ _ _ _ _ c1 c2 c3 c4 c5 d.source w
end Go.Proofs.Ytlcmodbjbdfloaa
/- Plain: how far a tree is cut, from its members. -/
namespace Go.Proofs.Ytlcmodbjbdfloaa
open Go.RowKit WalkM WireM
set_option linter.unusedVariables false
theorem cutK_eq {F : Nat → NodeD} {k L : Nat} (hL : (F (2 * L)).kind = 1) (h1 : L < 2 ^ k) (h2 : k = 0 ∨ 2 ^ k ≤ 2 * L) (hodd : ∀ x, x % 2 = 1 → (F x).kind ≠ 1) :
    ∀ d, k ≤ d → (∀ m, m < 2 ^ d → (F (2 * m)).kind = 1 → m ≤ L) → cutK F d = k
  | 0, hd, _ => by
    have : k = 0 := by omega
    rw [this]; rfl
  | d + 1, hd, hm => by
    by_cases e : k = d + 1
    · subst e
      refine cut_stop ((halfS_iff F (d + 1)).2 ⟨2 * L, ?_, by omega, hL⟩)
      rcases h2 with h2 | h2
      · omega
      · exact h2
    · have hh : halfS F (d + 1) = false := by
        cases hb : halfS F (d + 1) with
        | false => rfl
        | true =>
          obtain ⟨x, x1, x2, x3⟩ := (halfS_iff F (d + 1)).1 hb
          exfalso
          have e2 : 2 ^ (d + 1) = 2 * 2 ^ d := by rw [Nat.pow_succ]; omega
          have hkd : 2 ^ k ≤ 2 ^ d := Nat.pow_le_pow_right (by omega) (by omega)
          by_cases ev : x % 2 = 1
          · exact hodd x ev x3
          · obtain ⟨m, rfl⟩ : ∃ m, x = 2 * m := ⟨x / 2, by omega⟩
            have := hm m (by omega) x3
            omega
      rw [cut_succ hh]
      refine cutK_eq hL h1 h2 hodd d (by omega) fun m hm1 hm2 => hm m ?_ hm2
      have e2 : 2 ^ (d + 1) = 2 * 2 ^ d := by rw [Nat.pow_succ]; omega
      omega
theorem other_member {t : List NodeD} {m i : Nat} (h : ((i : Nat) : Int) ∈ rmemL t m) (hl : (rmemL t m).length ≠ 1) : ∃ j : Nat, ((j : Nat) : Int) ∈ rmemL t m ∧ j ≠ i := by
  have hp : 0 < (rmemL t m).length := List.length_pos_of_mem h
  have hr := List.pairwise_iff_getElem.1 (rmemL_rise t m) 0 1 (by omega) (by omega) (by omega)
  have key : ∀ r (hr : r < (rmemL t m).length), ∃ j : Nat, (rmemL t m)[r] = (j : Int) := fun r hr => by
    rcases Int.lt_or_le ((rmemL t m)[r]) 0 with hh | hh
    · exact absurd (List.getElem_mem hr) (mem_neg t m hh)
    · exact ⟨_, (Int.toNat_of_nonneg hh).symm⟩
  obtain ⟨a, ha⟩ := key 0 (by omega)
  obtain ⟨b, hb⟩ := key 1 (by omega)
  rw [ha, hb] at hr
  by_cases e : a = i
  · exact ⟨b, by rw [← hb]; exact List.getElem_mem _, by omega⟩
  · exact ⟨a, by rw [← ha]; exact List.getElem_mem _, e⟩
theorem setF_even (t : List NodeD) (i : Nat) (y : NodeD) {j : Nat} (hj : 2 * j ≤ 131070) (h : j ≠ i) : setF t i y (2 * j) = nd t (2 * j) := by
  unfold setF
  rw [if_neg (by omega), if_neg]
  intro c
  rw [lev_even (by omega) (by omega)] at c
  have h2 : IsLev (2 * i) 0 := by unfold IsLev; simp
  rw [anc_self h2] at c
  omega
theorem setF_kind1 {t : List NodeD} (hp : placedB t = true) (i : Nat) {y : NodeD} {x : Nat} (hx : x % 2 = 1) : (setF t i y x).kind ≠ 1 := by
  unfold setF
  rw [if_neg (by omega)]
  split
  · decide
  · rcases Nat.lt_or_ge x t.length with h | h
    · have := (placed_at hp h).1
      rw [otherK_odd hx] at this
      exact this
    · rw [nd_out h]; decide
theorem setF_ok {t : List NodeD} (hok : TreeOk t) (i : Nat) {y : NodeD} (hy : NodeOk y) (m : Nat) : TreeOk (listT m (setF t i y)) := listT_ok fun x _ => by
  unfold setF
  split
  · exact hy
  · split
    · exact noNode_ok
    · exact hok.nd x
theorem TreeOk.take {t : List NodeD} (h : TreeOk t) (k : Nat) : TreeOk (t.take k) := fun d hd => h d (List.mem_of_mem_take hd)
/-- the reference's Cut of a tree out of which a member is gone -/
theorem cut_set {t : List NodeD} (hr : rightT t = true) (hok : TreeOk t) {d i : Nat} (hd : d ≤ 9) (hlen : t.length + 1 = 2 * 2 ^ d) (hi : i < 2 ^ d) (hk : (nd t (2 * i)).kind = 1) (hl : (rmemL t (2 ^ d)).length ≠ 1) (v : Value) (w : World) (h : TreeR w v (listT t.length (setF t i noNodeD))) :
    Calls Try.prog 20 #[v] w fun e w' => ∃ v', e = .returned v' ∧ TreeR w' v' (listT (2 * 2 ^ cutK (setF t i noNodeD) d - 1) (setF t i noNodeD)) ∧ Below w.heap.size w w' := by
  have hp := rightT_placed hr
  have hpd : 2 ^ d ≤ 512 := Nat.le_trans (Nat.pow_le_pow_right (show 0 < 2 by omega) hd) (by decide)
  obtain ⟨F, hF⟩ : ∃ F, F = setF t i noNodeD := ⟨_, rfl⟩
  have hok' : TreeOk (listT t.length (setF t i noNodeD)) := setF_ok hok i noNode_ok _
  obtain ⟨j, hj, hji⟩ := other_member ((mem_iff t (2 ^ d) i).2 ⟨hi, hk⟩) hl
  obtain ⟨hj1, hj2⟩ := (mem_iff t (2 ^ d) j).1 hj
  have hmF : ∀ m, m < 2 ^ d → nd (listT t.length (setF t i noNodeD)) (2 * m) = setF t i noNodeD (2 * m) := fun m hm => listT_nd (by omega)
  have hjF : ((j : Nat) : Int) ∈ rmemL (listT t.length (setF t i noNodeD)) (2 ^ d) := (mem_iff _ _ j).2 ⟨hj1, by rw [hmF j hj1, setF_even t i _ (by omega) hji]; exact hj2⟩
  have hne : rmemL (listT t.length (setF t i noNodeD)) (2 ^ d) ≠ [] := fun e => by rw [e] at hjF; cases hjF
  obtain ⟨L, hL1, hL2, hL3⟩ := rmemL_last hne
  obtain ⟨hLd, hLk⟩ := (mem_iff _ _ L).1 hL2
  rw [hmF L hLd] at hLk
  refine (rcut_any v _ d L w h hok' (by rw [listT_len]; exact hlen) hd hne hL1 hLd).mono ?_
  rintro e w' ⟨v', k, rfl, hkd, hk1, hk2, htr, hb⟩
  have hcut : cutK (setF t i noNodeD) d = k := cutK_eq hLk hk1 hk2 (fun x hx => setF_kind1 hp i hx) d hkd fun m hm1 hm2 => hL3 m ((mem_iff _ _ m).2 ⟨hm1, by rw [hmF m hm1]; exact hm2⟩)
  rw [hcut]
  refine ⟨v', rfl, ?_, hb⟩
  have hkk : 2 ^ k ≤ 2 ^ d := Nat.pow_le_pow_right (by omega) hkd
  rwa [listT_take _ (by omega)] at htr
end Go.Proofs.Ytlcmodbjbdfloaa
/- Members that are added one by one: what the tree is then; Add and Remove of such a tree. -/
namespace Go.Proofs.Ytlcmodbjbdfloaa
open Go.RowKit WalkM WireM
set_option linter.unusedVariables false
/-- the least power of two above a number -/
def IsLg (k e : Nat) : Prop := k < 2 ^ e ∧ (e = 0 ∨ 2 ^ e ≤ 2 * k)
theorem isLg_ex : ∀ k : Nat, ∃ e, IsLg k e
  | 0 => ⟨0, by unfold IsLg; simp⟩
  | k + 1 => by
    obtain ⟨e, h1, h2⟩ := isLg_ex k
    rcases Nat.lt_or_ge (k + 1) (2 ^ e) with h | h
    · exact ⟨e, h, by rcases h2 with h2 | h2; exact .inl h2; exact .inr (by omega)⟩
    · have e2 : 2 ^ (e + 1) = 2 * 2 ^ e := by rw [Nat.pow_succ]; omega
      exact ⟨e + 1, by omega, .inr (by omega)⟩
theorem isLg_step {k e : Nat} (h : IsLg k e) (hlt : k + 1 < 2 ^ e) : IsLg (k + 1) e := ⟨hlt, by
  rcases h.2 with h2 | h2
  · exact .inl h2
  · exact .inr (by omega)⟩
theorem isLg_full {k e : Nat} (h : IsLg k e) (hf : ¬ k + 1 < 2 ^ e) : k + 1 = 2 ^ e ∧ IsLg (k + 1) (e + 1) := by
  have h1 := h.1
  have e2 : 2 ^ (e + 1) = 2 * 2 ^ e := by rw [Nat.pow_succ]; omega
  exact ⟨by omega, by omega, .inr (by omega)⟩
theorem isLg_le {k e e' : Nat} (h : IsLg (k + 1) e) (h' : IsLg k e') : e' ≤ e := by
  rcases Nat.lt_or_ge e e' with hl | hl
  · have h1 := h.1
    have h2 : 2 ^ (e + 1) ≤ 2 ^ e' := Nat.pow_le_pow_right (by omega) hl
    have e2 : 2 ^ (e + 1) = 2 * 2 ^ e := by rw [Nat.pow_succ]; omega
    rcases h'.2 with h3 | h3 <;> omega
  · exact hl
theorem isLg_five {k e : Nat} (h : IsLg k e) (hk : k ≤ 20) : e ≤ 5 := by
  rcases Nat.lt_or_ge 5 e with hl | hl
  · have h2 : 2 ^ 6 ≤ 2 ^ e := Nat.pow_le_pow_right (by omega) hl
    rcases h.2 with h3 | h3 <;> omega
  · exact hl
/-- so many members at the first places -/
def ordF (ls : List LeafD) (k x : Nat) : NodeD := if x % 2 = 0 ∧ x / 2 ≤ k then (if x = 0 then oneD else heldD (ls.getD (x / 2 - 1) noLeafD)) else noNodeD
theorem ordF_kind (ls : List LeafD) (k x : Nat) : (ordF ls k x).kind = if x % 2 = 0 ∧ x / 2 ≤ k then 1 else 0 := by
  unfold ordF
  split
  · split <;> rfl
  · rfl
theorem ordF_late (ls : List LeafD) (k x : Nat) : (ordF ls k x).par.late = [] := by
  unfold ordF
  split
  · split <;> rfl
  · rfl
theorem ordT_nd (ls : List LeafD) {k e : Nat} (h : IsLg k e) (x : Nat) : nd (listT (2 * 2 ^ e - 1) (ordF ls k)) x = ordF ls k x := by
  have h1 := h.1
  rcases Nat.lt_or_ge x (2 * 2 ^ e - 1) with hx | hx
  · exact listT_nd hx
  · rw [nd_out (by rw [listT_len]; exact hx)]
    unfold ordF
    rw [if_neg (by omega)]
theorem ordT_len (ls : List LeafD) (k e : Nat) : (listT (2 * 2 ^ e - 1) (ordF ls k)).length + 1 = 2 * 2 ^ e := by
  have := pow_pos' e
  rw [listT_len]; omega
def LsOk (ls : List LeafD) (k : Nat) : Prop := ∀ j, j < k → leafOkB (ls.getD j noLeafD) = true
theorem heldD_right {l : LeafD} (h : leafOkB l = true) : rightB (heldD l) = true := by
  unfold leafOkB at h
  unfold rightB
  simp [heldD, noParD, h, npB]
theorem ordF_right {ls : List LeafD} {k : Nat} (h : LsOk ls k) (x : Nat) : rightB (ordF ls k x) = true := by
  unfold ordF
  split
  · rename_i hx
    split
    · decide +kernel
    · exact heldD_right (h _ (by omega))
  · decide +kernel
theorem ordT_right {ls : List LeafD} {k e : Nat} (h : LsOk ls k) (hl : IsLg k e) (he : e ≤ 15) : rightT (listT (2 * 2 ^ e - 1) (ordF ls k)) = true := by
  have hlen := ordT_len ls k e
  have hN := leavesN_pow (d := e) (by omega) hlen
  have hp := pow_pos' e
  rw [rightT, Bool.and_eq_true, Bool.and_eq_true, Bool.and_eq_true]
  refine ⟨decide_eq_true (by omega), ?_, ?_, ?_⟩
  · refine listT_placed fun x _ => ⟨?_, ordF_right h x⟩
    rw [ordF_kind]
    unfold otherK
    split <;> split <;> omega
  · unfold someB
    rw [hN]
    rcases hl.2 with h0 | h2
    · subst h0
      rw [if_pos rfl]
      refine someK_yes (i := 0) (by rw [listT_len]; decide) ?_
      rw [ordT_nd ls hl, ordF_kind, if_pos (by omega)]
    · have : 1 < 2 ^ e := by
        rcases Nat.eq_zero_or_pos e with h0 | h0
        · subst h0
          have := hl.1
          omega
        · have : 2 ^ 1 ≤ 2 ^ e := Nat.pow_le_pow_right (by omega) h0
          omega
      rw [if_neg (by omega)]
      have hk := hl.1
      exact (halfS_iff (ordF ls k) e).2 ⟨2 * k, h2, by omega, by rw [ordF_kind, if_pos (by omega)]⟩
  · refine latesB_yes fun x _ => lateTB_yes fun u hu => ?_
    rw [ordT_nd ls hl, ordF_late] at hu
    cases hu
theorem ordF_small {ls : List LeafD} {k : Nat} (h : LsOk ls k) (x : Nat) : smallB (ordF ls k x) = true := by
  unfold ordF
  split
  · split
    · decide +kernel
    · have := leafOk_small (h (x / 2 - 1) (by omega))
      exact decide_eq_true ⟨this.1, this.2.1, this.2.2.1, this.2.2.2.1, this.2.2.2.2, by simp [heldD, noParD], by simp [heldD, noParD], by simp [heldD, noParD]⟩
  · decide
theorem ordT_med {ls : List LeafD} {k e : Nat} (h : LsOk ls k) (he : e ≤ 5) : medT (listT (2 * 2 ^ e - 1) (ordF ls k)) = true := by
  have h32 : 2 ^ e ≤ 2 ^ 5 := Nat.pow_le_pow_right (by omega) he
  refine medT_of (by rw [listT_len]; omega) fun i hi => ?_
  rw [listT_len] at hi
  rw [listT_nd hi]
  exact ordF_small h i
theorem ordT_ok {ls : List LeafD} (hok : ∀ j, LeafOk (ls.getD j noLeafD)) (k m : Nat) : TreeOk (listT m (ordF ls k)) := listT_ok fun x _ => by
  unfold ordF
  split
  · split
    · exact one_ok _ (by simp)
    · exact held_ok (hok _)
  · exact noNode_ok
theorem ord_addF {ls : List LeafD} {k e : Nat} (hl : IsLg k e) (x : Nat) : addF (listT (2 * 2 ^ e - 1) (ordF ls k)) (ls.getD k noLeafD) (k + 1) x = ordF ls (k + 1) x := by
  unfold addF
  rw [ordT_nd ls hl, if_neg (show ¬ ((ordF ls k x).kind = 2 ∧ x = anc (2 * (k + 1)) (lev x)) by rw [ordF_kind]; split <;> (rintro ⟨h, _⟩; omega))]
  by_cases e : x = 2 * (k + 1)
  · rw [if_pos e]
    unfold ordF
    rw [if_pos (by omega), if_neg (by omega), show x / 2 - 1 = k by omega]
  · rw [if_neg e]
    unfold ordF
    by_cases c : x % 2 = 0 ∧ x / 2 ≤ k
    · have c2 : x % 2 = 0 ∧ x / 2 ≤ k + 1 := by omega
      rw [if_pos c, if_pos c2]
    · rw [if_neg c, if_neg (by omega)]
theorem ord_free {ls : List LeafD} {k e : Nat} (hl : IsLg k e) : freeLeaf (listT (2 * 2 ^ e - 1) (ordF ls k)) (2 ^ e) (k + 1) := by
  have h1 := hl.1
  refine ⟨by omega, fun j hj => ?_, fun _ => ?_⟩
  · rw [ordT_nd ls hl, ordF_kind, if_pos (by omega)]
  · rw [ordT_nd ls hl, ordF_kind, if_neg (by omega)]; decide
theorem ord_setF {ls : List LeafD} {k e : Nat} (hl : IsLg (k + 1) e) (hk : k ≤ 1000) : setF (listT (2 * 2 ^ e - 1) (ordF ls (k + 1))) (k + 1) noNodeD = ordF ls k := by
  funext x
  unfold setF
  rw [ordT_nd ls hl]
  by_cases e1 : x = 2 * (k + 1)
  · rw [if_pos e1]
    unfold ordF
    rw [if_neg (by omega)]
  · rw [if_neg e1]
    by_cases c : x % 2 = 0 ∧ x / 2 ≤ k
    · have hlev := lev_even c.1 (show x ≤ 131070 by omega)
      rw [if_neg]
      · unfold ordF
        rw [if_pos c, if_pos (by omega)]
      · rw [hlev]
        have h2 : IsLev (2 * (k + 1)) 0 := by unfold IsLev; simp
        rw [anc_self h2]
        exact e1
    · have : ordF ls k x = noNodeD := by unfold ordF; rw [if_neg c]
      rw [this]
      split
      · rfl
      · unfold ordF
        rw [if_neg (by omega)]
theorem ord_add (v : Value) (c : Array Value) (ls : List LeafD) (k e : Nat) (w : World) (h : TreeR w v (listT (2 * 2 ^ e - 1) (ordF ls k))) (hc : LeafC w (ls.getD k noLeafD) c) (hok : ∀ j, LeafOk (ls.getD j noLeafD)) (hls : LsOk ls (k + 1)) (hl : IsLg k e) (hk : k ≤ 19) :
    Calls Try.prog 10 #[v, .agg c] w fun x w' => ∃ v' e', x = .returned (.tuple #[v', .int .i64 (k + 1 : Nat), .int .u8 0]) ∧ IsLg (k + 1) e' ∧ TreeR w' v' (listT (2 * 2 ^ e' - 1) (ordF ls (k + 1))) ∧ Below w.heap.size w w' := by
  have he := isLg_five hl (by omega)
  have hls' : LsOk ls k := fun j hj => hls j (by omega)
  have hm := ordT_med hls' he
  have hr := ordT_right hls' hl (by omega)
  have hlen := ordT_len ls k e
  have hokT := ordT_ok hok k (2 * 2 ^ e - 1)
  have hlk := hls k (by omega)
  by_cases hlt : k + 1 < 2 ^ e
  · refine (add_room v c _ _ e (k + 1) w h hc hm hokT hr (leafOk_small hlk) (hok k).source hlk hlen (ord_free hl) hlt (by omega)).mono ?_
    rintro x w' ⟨v', rfl, ht, hb⟩
    refine ⟨v', e, rfl, isLg_step hl hlt, ?_, hb⟩
    have := ht.r
    rwa [listT_congr fun x _ => ord_addF hl x] at this
  · obtain ⟨hf, hl2⟩ := isLg_full hl hlt
    have hfl : ∀ i, i = k + 1 → freeLeaf (listT (2 * 2 ^ e - 1) (ordF ls k)) (2 ^ e) i := by rintro i rfl; exact ord_free hl
    have key : ∀ x i, i = k + 1 → addF (listT (2 * 2 ^ e - 1) (ordF ls k)) (ls.getD k noLeafD) i x = ordF ls (k + 1) x := by rintro x i rfl; exact ord_addF hl x
    refine (add_full v c _ (ls.getD k noLeafD) e w h hc hm hokT hr (leafOk_small hlk) (hok k).source hlk hlen (hfl _ hf.symm) (by omega)).mono ?_
    rintro x w' ⟨v', rfl, ht, hb⟩
    refine ⟨v', e + 1, by rw [hf], hl2, ?_, hb⟩
    have := ht.r
    rwa [listT_congr fun x _ => key x _ hf.symm] at this
theorem ord_rem (v : Value) (ls : List LeafD) (k e : Nat) (w : World) (h : TreeR w v (listT (2 * 2 ^ e - 1) (ordF ls (k + 1)))) (hok : ∀ j, LeafOk (ls.getD j noLeafD)) (hls : LsOk ls (k + 1)) (hl : IsLg (k + 1) e) (hk : k ≤ 19) :
    Calls Try.prog 16 #[v, .int .i64 (k + 1 : Nat)] w fun x w' => ∃ v' e', x = .returned (.tuple #[v', .int .u8 0]) ∧ IsLg k e' ∧ TreeR w' v' (listT (2 * 2 ^ e' - 1) (ordF ls k)) ∧ Below w.heap.size w w' := by
  have he := isLg_five hl (by omega)
  have hm := ordT_med hls he
  have hr := ordT_right hls hl (by omega)
  have hlen := ordT_len ls (k + 1) e
  have hokT := ordT_ok hok (k + 1) (2 * 2 ^ e - 1)
  have h1 := hl.1
  have hp := pow_pos' e
  have hkk : (nd (listT (2 * 2 ^ e - 1) (ordF ls (k + 1))) (2 * (k + 1))).kind = 1 := by rw [ordT_nd ls hl, ordF_kind, if_pos (by omega)]
  have hm1 : (memL (listT (2 * 2 ^ e - 1) (ordF ls (k + 1))) (listT (2 * 2 ^ e - 1) (ordF ls (k + 1))).length).length ≠ 1 := by
    have hll : (listT (2 * 2 ^ e - 1) (ordF ls (k + 1))).length = 2 * (2 ^ e - 1) + 1 := by rw [listT_len]; omega
    conv => lhs; rw [hll]
    rw [mem_eq (rightT_placed hr) (2 ^ e - 1) (by omega), show 2 ^ e - 1 + 1 = 2 ^ e by omega]
    intro h1'
    have a := (mem_iff (listT (2 * 2 ^ e - 1) (ordF ls (k + 1))) (2 ^ e) 0).2 ⟨by omega, by rw [ordT_nd ls hl, ordF_kind, if_pos (by omega)]⟩
    have b := (mem_iff (listT (2 * 2 ^ e - 1) (ordF ls (k + 1))) (2 ^ e) 1).2 ⟨by omega, by rw [ordT_nd ls hl, ordF_kind, if_pos (by omega)]⟩
    obtain ⟨z, hz⟩ := List.length_eq_one_iff.1 h1'
    rw [hz, List.mem_singleton] at a b
    omega
  obtain ⟨e', hl'⟩ := isLg_ex k
  refine (trem_yes v _ (k + 1) e w h hm hokT hr hlen (by omega) h1 hkk hm1).mono ?_
  rintro x w' ⟨v', rfl, ht, hb⟩
  refine ⟨v', e', rfl, hl', ?_, hb⟩
  rw [ord_setF hl (by omega)] at ht
  have hcut : cutK (ordF ls k) e = e' := cutK_eq (L := k) (by rw [ordF_kind, if_pos (by omega)]) hl'.1 hl'.2 (fun x hx => by rw [ordF_kind, if_neg (by omega)]; decide) e (isLg_le hl hl') fun m _ hm2 => by
    rw [ordF_kind] at hm2
    split at hm2
    · omega
    · cases hm2
  rwa [hcut] at ht
end Go.Proofs.Ytlcmodbjbdfloaa
/- Plain: what is made of a tree that is right is right; who its members are then. -/
namespace Go.Proofs.Ytlcmodbjbdfloaa
open Go.RowKit WalkM WireM
set_option linter.unusedVariables false
theorem right_of {T : List NodeD} {d : Nat} (hd : d ≤ 16) (hlen : T.length + 1 = 2 * 2 ^ d) (hp : placedB T = true) (hs : someB T = true)
    (hl : ∀ x, x < T.length → ∀ m : Nat, (m : Int) ∈ (nd T x).par.late → m < 2 ^ d ∧ undZ ((2 * m : Nat) : Int) (x : Int) = true ∧ (nd T (2 * m)).kind ≠ 0 ∧ ∀ y, y < T.length → (nd T y).kind = 2 → undZ ((2 * m : Nat) : Int) (y : Int) = true → undZ (y : Int) (x : Int) = true → (m : Int) ∈ (nd T y).par.late) : rightT T = true := by
  rw [rightT, Bool.and_eq_true, Bool.and_eq_true, Bool.and_eq_true]
  have hN := leavesN_pow (d := d) hd hlen
  have hp2 := pow_pos' d
  refine ⟨decide_eq_true (by omega), hp, hs, latesB_yes fun x hx => lateTB_yes fun u hu => ?_⟩
  obtain ⟨_, m, rfl, _⟩ := placed_late hp hx hu
  exact (lateP_nat hd hlen).2 (hl x hx m hu)
theorem right_out {t : List NodeD} (hr : rightT t = true) {d : Nat} (hd : d ≤ 16) (hlen : t.length + 1 = 2 * 2 ^ d) {x m : Nat} (hm : (m : Int) ∈ (nd t x).par.late) :
    x < t.length ∧ m < 2 ^ d ∧ undZ ((2 * m : Nat) : Int) (x : Int) = true ∧ (nd t (2 * m)).kind ≠ 0 ∧ ∀ y, y < t.length → (nd t y).kind = 2 → undZ ((2 * m : Nat) : Int) (y : Int) = true → undZ (y : Int) (x : Int) = true → (m : Int) ∈ (nd t y).par.late := by
  have hx : x < t.length := by
    rcases Nat.lt_or_ge x t.length with h | h
    · exact h
    · rw [nd_out h] at hm; cases hm
  rw [rightT, Bool.and_eq_true, Bool.and_eq_true, Bool.and_eq_true] at hr
  have := lateTB_out (latesB_out hr.2.2.2 x hx) _ hm
  exact ⟨hx, (lateP_nat hd hlen).1 this⟩
theorem insL_mem {L : List Int} {x u : Int} : u ∈ insL L x ↔ u ∈ L ∨ u = x := by
  unfold insL
  simp only [List.mem_append, List.mem_filter, List.mem_singleton, decide_eq_true_iff]
  constructor
  · rintro ((h | h) | h)
    · exact .inl h.1
    · exact .inr h
    · exact .inl h.1
  · rintro (h | h)
    · rcases Int.lt_trichotomy u x with c | c | c
      · exact .inl (.inl ⟨h, c⟩)
      · exact .inl (.inr c)
      · exact .inr ⟨h, c⟩
    · exact .inl (.inr h)
theorem lateB_ins {L : List Int} {x : Int} (h : lateB L = true) (hx : 0 ≤ x ∧ x < 65536) : lateB (insL L x) = true := by
  rw [lateB_pw] at h ⊢
  refine ⟨?_, fun u hu => ?_⟩
  · unfold insL
    rw [List.pairwise_append, List.pairwise_append]
    refine ⟨⟨h.1.filter _, List.pairwise_singleton _ _, fun a ha b hb => ?_⟩, h.1.filter _, fun a ha b hb => ?_⟩
    · rw [List.mem_singleton] at hb
      subst hb
      exact of_decide_eq_true (List.mem_filter.1 ha).2
    · have hb' := of_decide_eq_true (List.mem_filter.1 hb).2
      rw [List.mem_append, List.mem_singleton] at ha
      rcases ha with ha | ha
      · have := of_decide_eq_true (List.mem_filter.1 ha).2
        omega
      · omega
  · rcases insL_mem.1 hu with h1 | h1
    · exact h.2 u h1
    · rw [h1]; exact hx
theorem rightB_ins {d : NodeD} (h : rightB d = true) (hk : d.kind = 2) {x : Int} (hx : 0 ≤ x ∧ x < 65536) : rightB (lateIns d x) = true := by
  unfold rightB at h ⊢
  simp only [lateIns, hk, if_true, if_false, Nat.reduceEqDiff] at h ⊢
  rw [Bool.and_eq_true] at h ⊢
  refine ⟨h.1, ?_⟩
  have h2 := h.2
  rw [rpB, Bool.and_eq_true] at h2 ⊢
  exact ⟨lateB_ins h2.1 hx, h2.2⟩
theorem addF_kind (t : List NodeD) (l : LeafD) (i x : Nat) : (addF t l i x).kind = if x = 2 * i then 1 else (nd t x).kind := by
  unfold addF
  split
  · rfl
  · split
    · rfl
    · rfl
theorem addF_late {t : List NodeD} {l : LeafD} {i x : Nat} {m : Nat} (h : (m : Int) ∈ (addF t l i x).par.late) : x ≠ 2 * i ∧ ((m : Int) ∈ (nd t x).par.late ∨ (m = i ∧ (nd t x).kind = 2 ∧ x = anc (2 * i) (lev x))) := by
  unfold addF at h
  split at h
  · simp [heldD, noParD] at h
  · rename_i hx
    split at h
    · rename_i c
      rcases insL_mem.1 h with h1 | h1
      · exact ⟨hx, .inl h1⟩
      · exact ⟨hx, .inr ⟨by omega, c⟩⟩
    · exact ⟨hx, .inl h⟩
theorem addF_keep {t : List NodeD} {l : LeafD} {i x : Nat} {u : Int} (hx : x ≠ 2 * i) (h : u ∈ (nd t x).par.late) : u ∈ (addF t l i x).par.late := by
  unfold addF
  rw [if_neg hx]
  split
  · exact insL_mem.2 (.inl h)
  · exact h
theorem right_parts {t : List NodeD} (hr : rightT t = true) : placedB t = true ∧ someB t = true := by
  rw [rightT, Bool.and_eq_true, Bool.and_eq_true, Bool.and_eq_true] at hr
  exact ⟨hr.2.1, hr.2.2.1⟩
theorem someB_iff {T : List NodeD} {d : Nat} (hd : d ≤ 16) (hlen : T.length + 1 = 2 * 2 ^ d) : someB T = true ↔ ∃ x, x < T.length ∧ (d = 0 ∨ 2 ^ d ≤ x) ∧ (nd T x).kind = 1 := by
  have hN := leavesN_pow (d := d) hd hlen
  have hp := pow_pos' d
  have key : ∀ L : List NodeD, someK L = true ↔ ∃ i, i < L.length ∧ (nd L i).kind = 1 := fun L => by
    constructor
    · intro h
      unfold someK at h
      rw [List.any_eq_true] at h
      obtain ⟨y, hy, hk⟩ := h
      obtain ⟨j, hj, rfl⟩ := List.getElem_of_mem hy
      refine ⟨j, hj, ?_⟩
      rw [nd, List.getD_eq_getElem?_getD, List.getElem?_eq_getElem hj]
      simpa using hk
    · rintro ⟨i, hi, hk⟩
      exact someK_yes hi hk
  unfold someB
  rw [hN]
  by_cases h1 : 2 ^ d = 1
  · have hd0 : d = 0 := by
      rcases Nat.eq_zero_or_pos d with h | h
      · exact h
      · have : 2 ^ 1 ≤ 2 ^ d := Nat.pow_le_pow_right (by omega) h
        omega
    rw [if_pos h1, key]
    constructor
    · rintro ⟨i, a, b⟩; exact ⟨i, a, .inl hd0, b⟩
    · rintro ⟨i, a, _, b⟩; exact ⟨i, a, b⟩
  · have hd0 : d ≠ 0 := fun h => h1 (by rw [h])
    rw [if_neg h1, key]
    constructor
    · rintro ⟨i, a, b⟩
      rw [List.length_drop] at a
      rw [nd_drop] at b
      exact ⟨2 ^ d + i, by omega, .inr (by omega), b⟩
    · rintro ⟨x, a, c, b⟩
      have hx : 2 ^ d ≤ x := by omega
      exact ⟨x - 2 ^ d, by rw [List.length_drop]; omega, by rw [nd_drop, show 2 ^ d + (x - 2 ^ d) = x by omega]; exact b⟩
/-- a leaf added -/
theorem right_add {t : List NodeD} (hr : rightT t = true) {l : LeafD} (hl : leafOkB l = true) {d e i : Nat} (he : e ≤ 15) (hde : d ≤ e) (hlen : t.length + 1 = 2 * 2 ^ d) (hi : i < 2 ^ e) (hfree : (nd t (2 * i)).kind ≠ 1) (hse : e = d ∨ 2 ^ e ≤ 2 * i) :
    rightT (listT (2 * 2 ^ e - 1) (addF t l i)) = true := by
  have hpe := pow_pos' e
  have hp2 := two_pow_le (show e + 1 ≤ 16 by omega)
  have e2 : 2 ^ (e + 1) = 2 * 2 ^ e := by rw [Nat.pow_succ]; omega
  have hdl : 2 ^ d ≤ 2 ^ e := Nat.pow_le_pow_right (by omega) hde
  have hlT : (listT (2 * 2 ^ e - 1) (addF t l i)).length + 1 = 2 * 2 ^ e := by rw [listT_len]; omega
  obtain ⟨hp, hs⟩ := right_parts hr
  have hnd : ∀ x, x < 2 * 2 ^ e - 1 → nd (listT (2 * 2 ^ e - 1) (addF t l i)) x = addF t l i x := fun x hx => listT_nd hx
  refine right_of (d := e) (by omega) hlT ?_ ?_ ?_
  · refine listT_placed fun x hx => ?_
    by_cases hxi : x = 2 * i
    · subst hxi
      rw [addF_leaf, otherK_even (by omega)]
      exact ⟨by show (1 : Nat) ≠ 2; decide, heldD_right hl⟩
    · have hbase : (nd t x).kind ≠ otherK x ∧ rightB (nd t x) = true := by
        rcases Nat.lt_or_ge x t.length with h | h
        · exact placed_at hp h
        · rw [nd_out h]
          refine ⟨?_, by decide +kernel⟩
          unfold otherK
          split <;> decide
      rw [addF_kind, if_neg hxi]
      refine ⟨hbase.1, ?_⟩
      unfold addF
      rw [if_neg hxi]
      split
      · rename_i c
        exact rightB_ins hbase.2 c.1 ⟨by omega, by omega⟩
      · exact hbase.2
  · rw [someB_iff (by omega) hlT]
    rw [listT_len]
    rcases hse with h | h
    · subst h
      obtain ⟨x, h1, h2, h3⟩ := (someB_iff (by omega) hlen).1 hs
      refine ⟨x, by omega, h2, ?_⟩
      rw [hnd x (by omega), addF_kind]
      split
      · rfl
      · exact h3
    · refine ⟨2 * i, by omega, .inr h, ?_⟩
      rw [hnd _ (by omega), addF_kind, if_pos rfl]
  · intro x hx m hm
    rw [listT_len] at hx
    rw [hnd x hx] at hm
    have sub : ∀ y, y < 2 * 2 ^ e - 1 → (nd (listT (2 * 2 ^ e - 1) (addF t l i)) y).kind = 2 → y ≠ 2 * i ∧ (nd t y).kind = 2 := fun y hy hk => by
      rw [hnd y hy, addF_kind] at hk
      split at hk
      · cases hk
      · rename_i c; exact ⟨c, hk⟩
    rw [listT_len]
    obtain ⟨hxi, h | ⟨rfl, hk2, hanc⟩⟩ := addF_late hm
    · obtain ⟨hxt, h1, h2, h3, h4⟩ := right_out hr (by omega) hlen h
      refine ⟨by omega, h2, ?_, fun y hy hk u1 u2 => ?_⟩
      · rw [hnd _ (by omega), addF_kind]
        split
        · decide
        · exact h3
      · obtain ⟨k1, k2⟩ := sub y hy hk
        have hyt : y < t.length := by
          rcases Nat.lt_or_ge y t.length with h | h
          · exact h
          · rw [nd_out h] at k2; cases k2
        rw [hnd y hy]
        exact addF_keep k1 (h4 y hyt k2 u1 u2)
    · refine ⟨hi, ?_, ?_, fun y hy hk u1 u2 => ?_⟩
      · rw [und_leaf (d := e) (by omega) (by omega) (by omega) (by omega)]
        exact decide_eq_true hanc
      · rw [hnd _ (by omega), addF_kind, if_pos rfl]; decide
      · obtain ⟨k1, k2⟩ := sub y hy hk
        rw [und_leaf (d := e) (by omega) (by omega) (by omega) (by omega)] at u1
        rw [hnd y hy]
        unfold addF
        rw [if_neg k1, if_pos ⟨k2, of_decide_eq_true u1⟩]
        exact insL_mem.2 (.inr rfl)
theorem setF_late {t : List NodeD} {i x : Nat} {y : NodeD} (hy : y.par.late = []) {m : Nat} (h : (m : Int) ∈ (setF t i y x).par.late) : x ≠ 2 * i ∧ x ≠ anc (2 * i) (lev x) ∧ (m : Int) ∈ (nd t x).par.late := by
  unfold setF at h
  split at h
  · rw [hy] at h; cases h
  · rename_i h1
    split at h
    · cases h
    · rename_i h2
      exact ⟨h1, h2, h⟩
theorem setF_two {t : List NodeD} {i x : Nat} {y : NodeD} (hy : y.kind ≠ 2) (h : (setF t i y x).kind = 2) : x ≠ 2 * i ∧ x ≠ anc (2 * i) (lev x) ∧ (nd t x).kind = 2 := by
  unfold setF at h
  split at h
  · exact absurd h hy
  · rename_i h1
    split at h
    · cases h
    · rename_i h2
      exact ⟨h1, h2, h⟩
/-- a subtree's leaves lie where the subtree does -/
theorem anc_inside {q x k : Nat} (hx : x + 1 < 2 ^ (k + 1)) (hk : k ≤ 16) (hq : q % 2 = 0) (h : x = anc q (lev x)) : q + 1 < 2 ^ (k + 1) := by
  have h17 := two_pow_le (show k + 1 ≤ 17 by omega)
  have hl := (lev_root hx (lev_is (by omega))).1
  obtain ⟨j, hj⟩ : ∃ j, j = lev x := ⟨_, rfl⟩
  rw [← hj] at h hl
  unfold anc at h
  obtain ⟨r, hr⟩ : ∃ r, k + 1 = (j + 1) + r := ⟨k - j, by omega⟩
  have e1 : 2 ^ (k + 1) = 2 ^ (j + 1) * 2 ^ r := by rw [hr, Nat.pow_add]
  have hP := pow_pos' (j + 1)
  have hlt : q / 2 ^ (j + 1) < 2 ^ r := by
    rcases Nat.lt_or_ge (q / 2 ^ (j + 1)) (2 ^ r) with c | c
    · exact c
    · have := Nat.mul_le_mul_right (2 ^ (j + 1)) c
      rw [Nat.mul_comm (2 ^ r)] at this
      omega
  have h3 := Nat.mul_le_mul_right (2 ^ (j + 1)) (show q / 2 ^ (j + 1) + 1 ≤ 2 ^ r by omega)
  rw [Nat.mul_comm (2 ^ r), Nat.add_mul, Nat.one_mul] at h3
  have h4 := Nat.div_add_mod q (2 ^ (j + 1))
  have h5 := Nat.mod_lt q hP
  rw [Nat.mul_comm] at h4
  have e3 : 2 ^ (k + 1) = 2 * 2 ^ k := by rw [Nat.pow_succ]; omega
  omega
/-- a place's leaf set, all above blank, and the tree cut -/
theorem right_set {t : List NodeD} (hr : rightT t = true) {y : NodeD} (hy : y = noNodeD ∨ ∃ l, leafOkB l = true ∧ y = heldD l) {d k i : Nat} (hd : d ≤ 15) (hk : k ≤ d) (hlen : t.length + 1 = 2 * 2 ^ d) (hi : i < 2 ^ d)
    (hsm : ∃ x, x < 2 * 2 ^ k - 1 ∧ (k = 0 ∨ 2 ^ k ≤ x) ∧ (setF t i y x).kind = 1) : rightT (listT (2 * 2 ^ k - 1) (setF t i y)) = true := by
  have hpk := pow_pos' k
  have hp2 := two_pow_le (show d + 1 ≤ 16 by omega)
  have e2 : 2 ^ (d + 1) = 2 * 2 ^ d := by rw [Nat.pow_succ]; omega
  have e3 : 2 ^ (k + 1) = 2 * 2 ^ k := by rw [Nat.pow_succ]; omega
  have hkd : 2 ^ k ≤ 2 ^ d := Nat.pow_le_pow_right (by omega) hk
  have hlT : (listT (2 * 2 ^ k - 1) (setF t i y)).length + 1 = 2 * 2 ^ k := by rw [listT_len]; omega
  obtain ⟨hp, hs⟩ := right_parts hr
  have hyl : y.par.late = [] := by rcases hy with rfl | ⟨l, _, rfl⟩ <;> rfl
  have hy2 : y.kind ≠ 2 := by
    rcases hy with rfl | ⟨l, _, rfl⟩
    · decide
    · show (1 : Nat) ≠ 2
      decide
  have hyr : rightB y = true := by
    rcases hy with rfl | ⟨l, h, rfl⟩
    · decide +kernel
    · exact heldD_right h
  have hnd : ∀ x, x < 2 * 2 ^ k - 1 → nd (listT (2 * 2 ^ k - 1) (setF t i y)) x = setF t i y x := fun x hx => listT_nd hx
  refine right_of (d := k) (by omega) hlT ?_ ?_ ?_
  · refine listT_placed fun x hx => ?_
    unfold setF
    split
    · rename_i h1
      exact ⟨by rw [otherK_even (by omega)]; exact hy2, hyr⟩
    · split
      · refine ⟨?_, by decide +kernel⟩
        unfold otherK
        split <;> decide
      · exact placed_at hp (by omega)
  · rw [someB_iff (by omega) hlT, listT_len]
    obtain ⟨x, h1, h2, h3⟩ := hsm
    exact ⟨x, h1, h2, by rw [hnd x h1]; exact h3⟩
  · intro x hx m hm
    rw [listT_len] at hx ⊢
    rw [hnd x hx] at hm
    obtain ⟨h1, h2, h3⟩ := setF_late hyl hm
    obtain ⟨hxt, q1, q2, q3, q4⟩ := right_out hr (by omega) hlen h3
    have hu := q2
    rw [und_leaf (d := d) (by omega) (by omega) (by omega) (by omega)] at hu
    have hanc := of_decide_eq_true hu
    have hin := anc_inside (k := k) (by omega) (by omega) (by omega) hanc
    have hmi : m ≠ i := fun e => h2 (by rw [← e]; exact hanc)
    refine ⟨by omega, q2, ?_, fun z hz hk2 u1 u2 => ?_⟩
    · rw [hnd _ (by omega), setF_even t i y (by omega) hmi]; exact q3
    · rw [hnd z hz] at hk2 ⊢
      obtain ⟨z1, z2, z3⟩ := setF_two hy2 hk2
      have := q4 z (by omega) z3 u1 u2
      unfold setF
      rw [if_neg z1, if_neg z2]
      exact this
/-- rising numbers below a bound are no more than the bound -/
theorem rise_len {L : List Int} {N : Nat} (h : L.Pairwise (· < ·)) (hb : ∀ u ∈ L, 0 ≤ u ∧ u < (N : Int)) : L.length ≤ N := by
  have key : ∀ j (hj : j < L.length), (j : Int) ≤ L[j] := by
    intro j
    induction j with
    | zero => intro hj; exact (hb _ (List.getElem_mem hj)).1
    | succ j ih =>
      intro hj
      have h1 := ih (by omega)
      have h2 := (List.pairwise_iff_getElem.1 h) j (j + 1) (by omega) hj (by omega)
      omega
  rcases Nat.lt_or_ge N L.length with c | c
  · have h1 := key N c
    have h2 := (hb _ (List.getElem_mem c)).2
    omega
  · exact c
theorem right_med {t : List NodeD} (hr : rightT t = true) (hl : t.length ≤ 63) : medT t = true := by
  obtain ⟨hp, hs⟩ := right_parts hr
  have hr0 := hr
  rw [rightT, Bool.and_eq_true] at hr0
  obtain ⟨d, hd, hN, hlen⟩ := leavesN_pos (of_decide_eq_true hr0.1)
  refine medT_of hl fun x hx => ?_
  obtain ⟨hk, hb⟩ := placed_at hp hx
  have hlate : (nd t x).par.late.length ≤ 60 := by
    have hlb := (lateB_pw.1 (right_late hb))
    have := rise_len (N := 2 ^ d) hlb.1 fun u hu => by
      obtain ⟨_, m, rfl, _⟩ := placed_late hp hx hu
      have := (right_out hr hd hlen hu).2.1
      omega
    omega
  unfold rightB at hb
  refine decide_eq_true ?_
  rcases right_kind (placed_at hp hx).2 with e | e | e
  · simp only [e, if_true] at hb
    rw [Bool.and_eq_true] at hb
    have h1 := of_decide_eq_true hb.1
    have h2 := of_decide_eq_true hb.2
    omega
  · simp only [e, if_true, if_false, Nat.reduceEqDiff] at hb
    rw [Bool.and_eq_true] at hb
    have h1 := of_decide_eq_true hb.1
    have h2 := of_decide_eq_true hb.2
    omega
  · simp only [e, if_true, if_false, Nat.reduceEqDiff] at hb
    rw [Bool.and_eq_true, rpB, Bool.and_eq_true] at hb
    have h1 := of_decide_eq_true hb.1
    have h2 := of_decide_eq_true hb.2.2
    omega
/-- members -/
theorem rmem_congr {t u : List NodeD} {a : Nat} (h : ∀ j, j < a → ((nd t (2 * j)).kind = 1 ↔ (nd u (2 * j)).kind = 1)) : rmemL t a = rmemL u a := by
  unfold rmemL
  congr 1
  refine List.filter_congr fun j hj => ?_
  have := h j (List.mem_range.1 hj)
  by_cases c : (nd u (2 * j)).kind = 1
  · rw [this.2 c, c]
  · have c2 : ¬ (nd t (2 * j)).kind = 1 := fun hh => c (this.1 hh)
    rw [beq_eq_false_iff_ne.2 c, beq_eq_false_iff_ne.2 c2]
theorem rmem_more {t : List NodeD} {a : Nat} : ∀ n, (∀ j, a ≤ j → j < a + n → (nd t (2 * j)).kind ≠ 1) → rmemL t (a + n) = rmemL t a
  | 0, _ => rfl
  | n + 1, h => by
    rw [← Nat.add_assoc, rmemL_no (h (a + n) (by omega) (by omega))]
    exact rmem_more n fun j h1 h2 => h j h1 (by omega)
theorem rmem_upto {t : List NodeD} {a b : Nat} (hab : a ≤ b) (h : ∀ j, a ≤ j → j < b → (nd t (2 * j)).kind ≠ 1) : rmemL t b = rmemL t a := by
  obtain ⟨n, rfl⟩ : ∃ n, b = a + n := ⟨b - a, by omega⟩
  exact rmem_more n h
theorem rmem_count {t u : List NodeD} {i : Nat} (hi : (nd t (2 * i)).kind ≠ 1) (hu : (nd u (2 * i)).kind = 1) (hne : ∀ j, j ≠ i → ((nd u (2 * j)).kind = 1 ↔ (nd t (2 * j)).kind = 1)) : ∀ a, (rmemL u a).length = (rmemL t a).length + if i < a then 1 else 0
  | 0 => by simp [rmemL]
  | a + 1 => by
    have ih := rmem_count hi hu hne a
    by_cases e : a = i
    · subst e
      rw [rmemL_yes hu, rmemL_no hi, List.length_append, ih, if_neg (by omega), if_pos (by omega)]
      rfl
    · by_cases c : (nd t (2 * a)).kind = 1
      · rw [rmemL_yes c, rmemL_yes ((hne a e).2 c), List.length_append, List.length_append, ih]
        simp only [List.length_singleton]
        by_cases hlt : i < a
        · rw [if_pos hlt, if_pos (by omega)]
        · rw [if_neg hlt, if_neg (by omega)]
      · rw [rmemL_no c, rmemL_no (fun hh => c ((hne a e).1 hh)), ih]
        by_cases hlt : i < a
        · rw [if_pos hlt, if_pos (by omega)]
        · rw [if_neg hlt, if_neg (by omega)]
end Go.Proofs.Ytlcmodbjbdfloaa
