/- Walks: the law TreeKeeps. -/
import Derived.Test.YtlcmodbjbdfloaaZTreeKeeps02
import Derived.Test.YtlcmodbjbdfloaaZTreeKeeps03
import Derived.Test.YtlcmodbjbdfloaaZTreeAdds36
import Derived.Test.YtlcmodbjbdfloaaZTreeAdds43
namespace Go.Proofs.Ytlcmodbjbdfloaa
open Go.RowKit WalkM WireM
set_option linter.unusedVariables false
set_option maxRecDepth 100000 in
set_option maxHeartbeats 16000000 in
theorem tkeep_not {w : World} (v : Value) (c : Array Value) (t : List NodeD) (l : LeafD) (p : Int) (h : TreeR w v t) (hl : LeafC w l c) (hok : TreeOk t) (hlk : LeafOk l) (hs : smallT t = true) (hsl : smallB ⟨0, l, noParD⟩ = true) (hr : rightT t = true) (hf : leafOkB l = true) (d : Nat) (hd : d ≤ 9) (hlen : t.length + 1 = 2 * 2 ^ d) (hp : p ∉ rmemL t (2 ^ d)) :
    Calls Try.prog 6 #[v, .agg c, .int .i64 p] w fun e w' => e = .returned (.bool true) ∧ Below w.heap.size w w' := by
  have hm := smallT_med hs
  have hl40 := smallT_len hs
  have hls : SmallL l := leafOk_small hf
  have hsrc := hlk.source
  have hpd : 2 ^ d ≤ 32 := by omega
  have hl2d : t.length = 2 * (2 ^ d - 1) + 1 := by have := pow_pos' d; omega
  have hN : leavesN t.length = (2 ^ d - 1) + 1 := by rw [leavesN_pow (d := d) (by omega) hlen]; have := pow_pos' d; omega
  have hN2 : 2 ^ d - 1 + 1 = 2 ^ d := by have := pow_pos' d; omega
  obtain ⟨hh, hhe⟩ : ∃ hh, hh = 2 ^ d - 1 := ⟨_, rfl⟩
  rw [← hhe] at hl2d hN hN2
  obtain ⟨e, i, hK, hadd⟩ := keep_add hr hok hs hlen l hls hsrc hf
  have hpe := hK.pow
  have hU := keepU_len (l := l) hK
  have hrU := keepU_right hK hf
  have hmU := keepU_med hK hf
  have hoU := keepU_ok hK hlk
  have hrV := keepV_right hK hf
  have hmV := keepV_med hK hf
  have hoV := keepV_ok hK hlk
  have hVU := keepV_le (l := l) hK
  have hmu := keepU_mem hK hf
  have hmv := keepV_mem hK hf
  have hne1 := keepU_ne1 hK hf
  have hkU : (nd (keepU t l e i) (2 * i)).kind = 1 := by rw [keepU_even hK, if_pos rfl]
  have hnU : nd (keepU t l e i) (2 * i) = heldD l := by rw [keepU_nd hK (by have := hK.hi; omega), addF_leaf]
  have hUh : (keepU t l e i).length = 2 * (2 ^ e - 1) + 1 := by omega
  have hUN : leavesN (keepU t l e i).length = (2 ^ e - 1) + 1 := by rw [leavesN_pow (d := e) (by have := hK.e5; omega) hU]; omega
  have hin : ((i : Nat) : Int) ∉ rmemL t (hh + 1) := by rw [hN2]; exact fun hc => hK.free ((mem_iff t _ i).1 hc).2
  have hi32 : i < 32 := by have := hK.hi; omega
  have TB := fun (W : World) (hw : Below w.heap.size w W) => h.below hw (Nat.le_refl _)
  have LB := fun (W : World) (hw : Below w.heap.size w W) => hl.below hw (Nat.le_refl _)
  obtain ⟨a1, c1, a2, c2, a3, c3, a4, c4, a5, c5, rfl, -⟩ := held_c hl
  have AL := fun (W : World) (hw : Below w.heap.size w W) => alive17 W
  have SM := fun (W : World) (hw : Below w.heap.size w W) => tsmall_any v t W (TB W hw)
  have SL := fun (W : World) (hw : Below w.heap.size w W) => smallLeaf_any l _ W (LB W hw)
  have TR := fun (W : World) (hw : Below w.heap.size w W) => tright_med v t W (TB W hw) hm hok
  have RRL := fun (W : World) (hw : Below w.heap.size w W) => rrightLeafT_any l _ W (LB W hw)
  have CP := fun (W : World) (hw : Below w.heap.size w W) => treeCopy_med v t W (TB W hw) hm
  have ME := fun (W : World) (hw : Below w.heap.size w W) => tmembers_yes_med v t W (TB W hw) hm hok hr
  have AD := fun (W : World) (hw : Below w.heap.size w W) => hadd v _ W (TB W hw) (LB W hw)
  have TRU := fun (W : World) (x : Value) (hx : TreeR W x (keepU t l e i)) => tright_med x _ W hx hmU hoU
  have MEU := fun (W : World) (x : Value) (hx : TreeR W x (keepU t l e i)) => tmembers_yes_med x _ W hx hmU hoU hrU
  have ISA := fun (W : World) (hw : Below w.heap.size w W) => ris_any v t hh (i : Nat) W (TB W hw) hok hl2d (by omega)
  have LF := fun (W : World) (x : Value) (hx : TreeR W x (keepU t l e i)) => tleaf_yes_med x _ (2 ^ e - 1) i W hx hmU hoU hrU hUh hUN ((mem_iff _ _ i).2 ⟨by have := hK.hi; omega, hkU⟩)
  have SLF := fun (W : World) (c1 : Array Value) (h1 : LeafC W l c1) (hw : Below w.heap.size w W) => rsameLeaf_any l l c1 _ W h1 (LB W hw) hlk hlk
  have RM := fun (W : World) (x : Value) (hx : TreeR W x (keepU t l e i)) => (show Calls Try.prog 16 #[x, .int .i64 (i : Nat)] W fun y w' => ∃ v', y = .returned (.tuple #[v', .int .u8 0]) ∧ TreeR w' v' (keepV t l e i) ∧ Below W.heap.size W w' from trem_yes x _ i e W hx hmU hoU hrU hU (by have := hK.e5; omega) hK.hi hkU hne1)
  have TRV := fun (W : World) (x : Value) (hx : TreeR W x (keepV t l e i)) => tright_med x _ W hx hmV hoV
  have MEV := fun (W : World) (x : Value) (hx : TreeR W x (keepV t l e i)) => tmembers_yes_med x _ W hx hmV hoV hrV
  have IS := fun (W : World) (hw : Below w.heap.size w W) => ris_any v t hh p W (TB W hw) hok hl2d (by omega)
  have SAT := fun (W : World) (hw : Below w.heap.size w W) => fun (x : Value) (hx : TreeR W x t) => tsameP_any v x t W (TB W hw) hx (by omega) (fun y => by have := of_decide_eq_true (smallT_nd hs y); omega)
  rw [hs] at SM
  rw [hsl] at SL
  rw [hr] at TR
  rw [hf] at RRL
  rw [hrU] at TRU
  rw [hrV] at TRV
  rw [decide_eq_false hin] at ISA
  rw [hmv] at MEV
  rw [sameLB_refl] at SLF
  rw [hnU] at LF
  rw [hN2, decide_eq_false hp] at IS
  have SAI := fun (W : World) (x y : Value) (hx : Rd W x (ivs .i64 (memL t t.length))) (hy : Rd W y (ivs .i64 (memL t t.length))) => (show Calls Try.prog 28 #[x, y] W fun e w' => e = .returned (.bool true) ∧ Below W.heap.size W w' from by
    have := sameI_any x y _ _ W hx hy
    rw [decide_eq_true rfl] at this
    refine this.mono ?_
    rintro e w' ⟨rfl, n, rfl⟩
    exact ⟨rfl, below_drewN' (Below.refl _ _) n⟩)
  obtain ⟨U, hUe⟩ : ∃ U, U = keepU t l e i := ⟨_, rfl⟩
  obtain ⟨V, hVe⟩ : ∃ V, V = keepV t l e i := ⟨_, rfl⟩
  simp only [← hUe] at AD TRU MEU LF RM hmu hVU hU
  simp only [← hVe] at RM TRV MEV hVU
  obtain ⟨nu, hnu⟩ : ∃ n, n = U.length := ⟨_, rfl⟩
  obtain ⟨nv, hnv⟩ : ∃ n, n = V.length := ⟨_, rfl⟩
  rw [← hnu, ← hnv] at hVU
  obtain ⟨MU, hMU⟩ : ∃ M, M = memL U U.length := ⟨_, rfl⟩
  rw [← hMU] at MEU hmu
  obtain ⟨ML, hML⟩ : ∃ M, M = memL t t.length := ⟨_, rfl⟩
  simp only [← hML] at ME MEV SAI hmu
  have hml5 : ML.length ≤ 100 := by rw [hML]; have := memL_len t t.length; omega
  obtain ⟨ml, hml⟩ : ∃ k, k = ML.length := ⟨_, rfl⟩
  rw [← hml] at hmu hml5
  have HLT := Lib.hid LB
  obtain ⟨a, c0, rfl, hc0, hc1⟩ := h.sl
  obtain ⟨n, hn⟩ : ∃ n, n = t.length := ⟨_, rfl⟩
  simp only [← hn] at SM TR CP ME AD ISA IS SAT hc0  ⊢
  obtain ⟨l1, hl1⟩ : ∃ x, x = l.box.length := ⟨_, rfl⟩
  obtain ⟨l2, hl2⟩ : ∃ x, x = l.sign.length := ⟨_, rfl⟩
  obtain ⟨l3, hl3⟩ : ∃ x, x = l.ident.length := ⟨_, rfl⟩
  obtain ⟨l4, hl4⟩ : ∃ x, x = l.par.length := ⟨_, rfl⟩
  obtain ⟨l5, hl5⟩ : ∃ x, x = l.sig.length := ⟨_, rfl⟩
  obtain ⟨s, hsr⟩ : ∃ s, s = l.source := ⟨_, rfl⟩
  have HE1 := Lib.hid hl1.symm
  have HE2 := Lib.hid hl2.symm
  have HE3 := Lib.hid hl3.symm
  have HE4 := Lib.hid hl4.symm
  have HE5 := Lib.hid hl5.symm
  have HES := Lib.hid hsr.symm
  simp only [← hl1, ← hl2, ← hl3, ← hl4, ← hl5, ← hsr] at SL RRL AD SLF HLT  ⊢
  have HAL := Lib.hid AL
  have HSM := Lib.hid SM
  have HSL := Lib.hid SL
  have HTR := Lib.hid TR
  have HRRL := Lib.hid RRL
  have HCP := Lib.hid CP
  have HME := Lib.hid ME
  have HAD := Lib.hid AD
  have HTRU := Lib.hid TRU
  have HMEU := Lib.hid MEU
  have HISA := Lib.hid ISA
  have HLF := Lib.hid LF
  have HSLF := Lib.hid SLF
  have HRM := Lib.hid RM
  have HTRV := Lib.hid TRV
  have HMEV := Lib.hid MEV
  have HIS := Lib.hid IS
  have HSAT := Lib.hid SAT
  have HSAI := Lib.hid SAI
  have HMLEN := Lib.hid hml
  have HMU := Lib.hid hmu
  have HNU := Lib.hid hnu
  have HNV := Lib.hid hnv
  have hu100 : nu ≤ 200 := by omega
  have hgt : decide ((nv : Int) > (nu : Int)) = false := decide_eq_false (by omega)
  have hgt2 : decide (nu < nv) = false := decide_eq_false (by omega)
  have hgt3 : decide ((nu : Int) < (nv : Int)) = false := decide_eq_false (by omega)
  clear AL SM SL TR RRL CP ME AD TRU MEU ISA LF SLF RM TRV MEV IS SAT SAI TB LB hl1 hl2 hl3 hl4 hl5 hsr h hl hok hlk hn hs hsl hr hf hd hlen hm hl40 hls hsrc hpd hl2d hN hN2 hhe hadd hpe hU hrU hmU hoU hrV hmV hoV hVU hmu hmv hne1 hkU hnU hUh hUN hin hK hUe hVe hnu hnv hMU hML hml hp 
  go_enter Try.func6, Try.ntmps6
  go_wp2_with fail
  have HBK0 := Lib.hid (Blk.new w 25 #[.slice a1 l1 c1, .slice a2 l2 c2, .slice a3 l3 c3, .int .u8 (s : Nat), .slice a4 l4 c4, .slice a5 l5 c5])
  have HB0 := Lib.hid ((Below.refl w.heap.size w).alloc (Nat.le_refl _) (.cells #[.slice a1 l1 c1, .slice a2 l2 c2, .slice a3 l3 c3, .int .u8 (s : Nat), .slice a4 l4 c4, .slice a5 l5 c5] 25))
  generalize hw0 : w.alloc (.cells #[.slice a1 l1 c1, .slice a2 l2 c2, .slice a3 l3 c3, .int .u8 (s : Nat), .slice a4 l4 c4, .slice a5 l5 c5] 25) = w0 at HBK0 HB0 ⊢
  clear hw0
  go_wp2_with fail
  refine (HAL.out w0 HB0.out).mono ?_
  rintro e w1 ⟨rfl, hb⟩
  have HB1 := Lib.hid (HB0.out.trans (hb.mono HB0.out.size))
  have HBK1 := Lib.hid (HBK0.out.below hb HBK0.out.lt)
  clear hb
  go_wp2_with fail
  refine (HSM.out w1 HB1.out).mono ?_
  rintro e w2 ⟨rfl, hb⟩
  have HB2 := Lib.hid (HB1.out.trans (hb.mono HB1.out.size))
  have HBK2 := Lib.hid (HBK1.out.below hb HBK1.out.lt)
  clear hb
  go_wp2_with (first | (refine wpList_load_at rfl 25 (.tmp 4) rfl w.heap.size rfl 25 #[.slice a1 l1 c1, .slice a2 l2 c2, .slice a3 l3 c3, .int .u8 (s : Nat), .slice a4 l4 c4, .slice a5 l5 c5] (0, 0) _ HBK2.out Try.underlying25 rfl (by kernel_rfl) ?_) | (refine wpList_wanted rfl ?_; refine wpList_load_at rfl 25 (.tmp 4) rfl w.heap.size rfl 25 #[.slice a1 l1 c1, .slice a2 l2 c2, .slice a3 l3 c3, .int .u8 (s : Nat), .slice a4 l4 c4, .slice a5 l5 c5] (0, 0) _ HBK2.out Try.underlying25 rfl (by kernel_rfl) ?_) | (refine wpList_wanted rfl ?_; refine wpList_load_at rfl 25 (.tmp 4) rfl w.heap.size rfl 25 #[.slice a1 l1 c1, .slice a2 l2 c2, .slice a3 l3 c3, .int .u8 (s : Nat), .slice a4 l4 c4, .slice a5 l5 c5] (0, 0) _ (HBK2.out.alloc _) Try.underlying25 rfl (by kernel_rfl) ?_))
  refine (HSL.out w2 HB2.out).mono ?_
  rintro e w3 ⟨rfl, hb⟩
  have HB3 := Lib.hid (HB2.out.trans (hb.mono HB2.out.size))
  have HBK3 := Lib.hid (HBK2.out.below hb HBK2.out.lt)
  clear hb
  go_wp2_with fail
  refine (HTR.out w3 HB3.out).mono ?_
  rintro e w4 ⟨rfl, hb⟩
  have HB4 := Lib.hid (HB3.out.trans (hb.mono HB3.out.size))
  have HBK4 := Lib.hid (HBK3.out.below hb HBK3.out.lt)
  clear hb
  go_wp2_with (first | (refine wpList_load_at rfl 25 (.tmp 4) rfl w.heap.size rfl 25 #[.slice a1 l1 c1, .slice a2 l2 c2, .slice a3 l3 c3, .int .u8 (s : Nat), .slice a4 l4 c4, .slice a5 l5 c5] (0, 0) _ HBK4.out Try.underlying25 rfl (by kernel_rfl) ?_) | (refine wpList_wanted rfl ?_; refine wpList_load_at rfl 25 (.tmp 4) rfl w.heap.size rfl 25 #[.slice a1 l1 c1, .slice a2 l2 c2, .slice a3 l3 c3, .int .u8 (s : Nat), .slice a4 l4 c4, .slice a5 l5 c5] (0, 0) _ HBK4.out Try.underlying25 rfl (by kernel_rfl) ?_) | (refine wpList_wanted rfl ?_; refine wpList_load_at rfl 25 (.tmp 4) rfl w.heap.size rfl 25 #[.slice a1 l1 c1, .slice a2 l2 c2, .slice a3 l3 c3, .int .u8 (s : Nat), .slice a4 l4 c4, .slice a5 l5 c5] (0, 0) _ (HBK4.out.alloc _) Try.underlying25 rfl (by kernel_rfl) ?_))
  refine (HRRL.out w4 HB4.out).mono ?_
  rintro e w5 ⟨rfl, hb⟩
  have HB5 := Lib.hid (HB4.out.trans (hb.mono HB4.out.size))
  have HBK5 := Lib.hid (HBK4.out.below hb HBK4.out.lt)
  clear hb
  go_wp2_with fail
  refine (HCP.out w5 HB5.out).mono ?_
  rintro e w6 ⟨vk, rfl, hto, hb⟩
  have HB6 := Lib.hid (HB5.out.trans (hb.mono HB5.out.size))
  have HBK6 := Lib.hid (HBK5.out.below hb HBK5.out.lt)
  have HTk_6 := Lib.hid (hto.r)
  obtain ⟨xk, zk, rfl, hlzk, hmzk⟩ := (hto.r).sl
  clear hto
  clear hb
  go_wp2_with fail
  refine (HME.out w6 HB6.out).mono ?_
  rintro e w7 ⟨vm, rfl, hown, hb⟩
  have HB7 := Lib.hid (HB6.out.trans (hb.mono HB6.out.size))
  have HBK7 := Lib.hid (HBK6.out.below hb HBK6.out.lt)
  have HTk_7 := Lib.hid (HTk_6.out.below hb (Nat.le_refl _))
  have HLm_7 := Lib.hid (hown.rd)
  obtain ⟨xm, zm, rfl⟩ : ∃ a c, vm = .slice a ml c := by obtain ⟨a, c, e, _⟩ := hown.rd; rw [ivs_len', ← HMLEN.out] at e; exact ⟨a, c, e⟩
  clear hown
  clear hb
  go_wp2_with (first | (refine wpList_load_at rfl 25 (.tmp 4) rfl w.heap.size rfl 25 #[.slice a1 l1 c1, .slice a2 l2 c2, .slice a3 l3 c3, .int .u8 (s : Nat), .slice a4 l4 c4, .slice a5 l5 c5] (0, 0) _ HBK7.out Try.underlying25 rfl (by kernel_rfl) ?_) | (refine wpList_wanted rfl ?_; refine wpList_load_at rfl 25 (.tmp 4) rfl w.heap.size rfl 25 #[.slice a1 l1 c1, .slice a2 l2 c2, .slice a3 l3 c3, .int .u8 (s : Nat), .slice a4 l4 c4, .slice a5 l5 c5] (0, 0) _ HBK7.out Try.underlying25 rfl (by kernel_rfl) ?_) | (refine wpList_wanted rfl ?_; refine wpList_load_at rfl 25 (.tmp 4) rfl w.heap.size rfl 25 #[.slice a1 l1 c1, .slice a2 l2 c2, .slice a3 l3 c3, .int .u8 (s : Nat), .slice a4 l4 c4, .slice a5 l5 c5] (0, 0) _ (HBK7.out.alloc _) Try.underlying25 rfl (by kernel_rfl) ?_))
  refine (HAD.out w7 HB7.out).mono ?_
  rintro e w8 ⟨vu, rfl, hto, hb⟩
  have HB8 := Lib.hid (HB7.out.trans (hb.mono HB7.out.size))
  have HBK8 := Lib.hid (HBK7.out.below hb HBK7.out.lt)
  have HTk_8 := Lib.hid (HTk_7.out.below hb (Nat.le_refl _))
  have HLm_8 := Lib.hid (HLm_7.out.below hb (Nat.le_refl _))
  have HTu_8 := Lib.hid (hto)
  obtain ⟨xu, zu, rfl, hlzu, hmzu⟩ := (hto).sl
  rw [← HNU.out] at HTu_8 ⊢
  clear hto
  clear hb
  go_wp2_with fail
  refine (HTRU.out w8 _ HTu_8.out).mono ?_
  rintro e w9 ⟨rfl, hb⟩
  have HB9 := Lib.hid (HB8.out.trans (hb.mono HB8.out.size))
  have HBK9 := Lib.hid (HBK8.out.below hb HBK8.out.lt)
  have HTk_9 := Lib.hid (HTk_8.out.below hb (Nat.le_refl _))
  have HLm_9 := Lib.hid (HLm_8.out.below hb (Nat.le_refl _))
  have HTu_9 := Lib.hid (HTu_8.out.below hb (Nat.le_refl _))
  clear hb
  go_wp2_with fail
  refine (HMEU.out w9 _ HTu_9.out).mono ?_
  rintro e w10 ⟨vn, rfl, hown, hb⟩
  have HB10 := Lib.hid (HB9.out.trans (hb.mono HB9.out.size))
  have HBK10 := Lib.hid (HBK9.out.below hb HBK9.out.lt)
  have HTk_10 := Lib.hid (HTk_9.out.below hb (Nat.le_refl _))
  have HLm_10 := Lib.hid (HLm_9.out.below hb (Nat.le_refl _))
  have HTu_10 := Lib.hid (HTu_9.out.below hb (Nat.le_refl _))
  have HLn_10 := Lib.hid (hown.rd)
  obtain ⟨xn, zn, rfl⟩ : ∃ a c, vn = .slice a (ml + 1) c := by obtain ⟨a, c, e, _⟩ := hown.rd; rw [ivs_len', HMU.out] at e; exact ⟨a, c, e⟩
  clear hown
  clear hb
  go_wp2_with fail
  refine (HISA.out w10 HB10.out).mono ?_
  rintro e w11 ⟨rfl, hb⟩
  have HB11 := Lib.hid (HB10.out.trans (hb.mono HB10.out.size))
  have HBK11 := Lib.hid (HBK10.out.below hb HBK10.out.lt)
  have HTk_11 := Lib.hid (HTk_10.out.below hb (Nat.le_refl _))
  have HLm_11 := Lib.hid (HLm_10.out.below hb (Nat.le_refl _))
  have HTu_11 := Lib.hid (HTu_10.out.below hb (Nat.le_refl _))
  have HLn_11 := Lib.hid (HLn_10.out.below hb (Nat.le_refl _))
  clear hb
  go_wp2_with fail
  refine (HLF.out w11 _ HTu_11.out).mono ?_
  rintro e w12 ⟨c6, rfl, hlc, hb⟩
  have HB12 := Lib.hid (HB11.out.trans (hb.mono HB11.out.size))
  have HBK12 := Lib.hid (HBK11.out.below hb HBK11.out.lt)
  have HTk_12 := Lib.hid (HTk_11.out.below hb (Nat.le_refl _))
  have HLm_12 := Lib.hid (HLm_11.out.below hb (Nat.le_refl _))
  have HTu_12 := Lib.hid (HTu_11.out.below hb (Nat.le_refl _))
  have HLn_12 := Lib.hid (HLn_11.out.below hb (Nat.le_refl _))
  obtain ⟨b1, d1, b2, d2, b3, d3, b4, d4, b5, d5, rfl, -⟩ := id hlc
  have hlc : LeafC w12 l _ := hlc
  simp only [show (heldD l).leaf = l from rfl, HE1.out, HE2.out, HE3.out, HE4.out, HE5.out, HES.out] at hlc ⊢
  have HLC_12 := Lib.hid (show LeafC w12 l _ from hlc)
  clear hb
  go_wp2_with (first | (refine wpList_load_at rfl 25 (.tmp 4) rfl w.heap.size rfl 25 #[.slice a1 l1 c1, .slice a2 l2 c2, .slice a3 l3 c3, .int .u8 (s : Nat), .slice a4 l4 c4, .slice a5 l5 c5] (0, 0) _ HBK12.out Try.underlying25 rfl (by kernel_rfl) ?_) | (refine wpList_wanted rfl ?_; refine wpList_load_at rfl 25 (.tmp 4) rfl w.heap.size rfl 25 #[.slice a1 l1 c1, .slice a2 l2 c2, .slice a3 l3 c3, .int .u8 (s : Nat), .slice a4 l4 c4, .slice a5 l5 c5] (0, 0) _ HBK12.out Try.underlying25 rfl (by kernel_rfl) ?_) | (refine wpList_wanted rfl ?_; refine wpList_load_at rfl 25 (.tmp 4) rfl w.heap.size rfl 25 #[.slice a1 l1 c1, .slice a2 l2 c2, .slice a3 l3 c3, .int .u8 (s : Nat), .slice a4 l4 c4, .slice a5 l5 c5] (0, 0) _ (HBK12.out.alloc _) Try.underlying25 rfl (by kernel_rfl) ?_))
  have hba := (Below.refl w12.heap.size w12).alloc (Nat.le_refl _) (.cells #[.slice b1 l1 d1, .slice b2 l2 d2, .slice b3 l3 d3, .int .u8 (s : Nat), .slice b4 l4 d4, .slice b5 l5 d5] 25)
  refine (HSLF.out _ _ (HLC_12.out.below hba (Nat.le_refl _)) (HB12.out.trans (hba.mono HB12.out.size))).mono ?_
  rintro e w13 ⟨rfl, hb1⟩
  have hb := hba.trans (hb1.mono hba.size)
  have HB13 := Lib.hid (HB12.out.trans (hb.mono HB12.out.size))
  have HBK13 := Lib.hid (HBK12.out.below hb HBK12.out.lt)
  have HTk_13 := Lib.hid (HTk_12.out.below hb (Nat.le_refl _))
  have HLm_13 := Lib.hid (HLm_12.out.below hb (Nat.le_refl _))
  have HTu_13 := Lib.hid (HTu_12.out.below hb (Nat.le_refl _))
  have HLn_13 := Lib.hid (HLn_12.out.below hb (Nat.le_refl _))
  clear hb hb1 hba
  go_wp2_with fail
  refine (HRM.out w13 _ HTu_13.out).mono ?_
  rintro e w14 ⟨vv, rfl, hto, hb⟩
  have HB14 := Lib.hid (HB13.out.trans (hb.mono HB13.out.size))
  have HBK14 := Lib.hid (HBK13.out.below hb HBK13.out.lt)
  have HTk_14 := Lib.hid (HTk_13.out.below hb (Nat.le_refl _))
  have HLm_14 := Lib.hid (HLm_13.out.below hb (Nat.le_refl _))
  have HTu_14 := Lib.hid (HTu_13.out.below hb (Nat.le_refl _))
  have HLn_14 := Lib.hid (HLn_13.out.below hb (Nat.le_refl _))
  have HTv_14 := Lib.hid (hto)
  obtain ⟨xv, zv, rfl, hlzv, hmzv⟩ := (hto).sl
  rw [← HNV.out] at HTv_14 ⊢
  clear hto
  clear hb
  go_wp2_with fail
  refine (HTRV.out w14 _ HTv_14.out).mono ?_
  rintro e w15 ⟨rfl, hb⟩
  have HB15 := Lib.hid (HB14.out.trans (hb.mono HB14.out.size))
  have HBK15 := Lib.hid (HBK14.out.below hb HBK14.out.lt)
  have HTk_15 := Lib.hid (HTk_14.out.below hb (Nat.le_refl _))
  have HLm_15 := Lib.hid (HLm_14.out.below hb (Nat.le_refl _))
  have HTu_15 := Lib.hid (HTu_14.out.below hb (Nat.le_refl _))
  have HLn_15 := Lib.hid (HLn_14.out.below hb (Nat.le_refl _))
  have HTv_15 := Lib.hid (HTv_14.out.below hb (Nat.le_refl _))
  clear hb
  go_wp2_with fail
  refine (HMEV.out w15 _ HTv_15.out).mono ?_
  rintro e w16 ⟨vq, rfl, hown, hb⟩
  have HB16 := Lib.hid (HB15.out.trans (hb.mono HB15.out.size))
  have HBK16 := Lib.hid (HBK15.out.below hb HBK15.out.lt)
  have HTk_16 := Lib.hid (HTk_15.out.below hb (Nat.le_refl _))
  have HLm_16 := Lib.hid (HLm_15.out.below hb (Nat.le_refl _))
  have HTu_16 := Lib.hid (HTu_15.out.below hb (Nat.le_refl _))
  have HLn_16 := Lib.hid (HLn_15.out.below hb (Nat.le_refl _))
  have HTv_16 := Lib.hid (HTv_15.out.below hb (Nat.le_refl _))
  have HLq_16 := Lib.hid (hown.rd)
  obtain ⟨xq, zq, rfl⟩ : ∃ a c, vq = .slice a ml c := by obtain ⟨a, c, e, _⟩ := hown.rd; rw [ivs_len', ← HMLEN.out] at e; exact ⟨a, c, e⟩
  clear hown
  clear hb
  go_wp2_with fail
  refine (HSAI.out w16 _ _ HLq_16.out HLm_16.out).mono ?_
  rintro e w17 ⟨rfl, hb⟩
  have HB17 := Lib.hid (HB16.out.trans (hb.mono HB16.out.size))
  have HBK17 := Lib.hid (HBK16.out.below hb HBK16.out.lt)
  have HTk_17 := Lib.hid (HTk_16.out.below hb (Nat.le_refl _))
  have HLm_17 := Lib.hid (HLm_16.out.below hb (Nat.le_refl _))
  have HTu_17 := Lib.hid (HTu_16.out.below hb (Nat.le_refl _))
  have HLn_17 := Lib.hid (HLn_16.out.below hb (Nat.le_refl _))
  have HTv_17 := Lib.hid (HTv_16.out.below hb (Nat.le_refl _))
  have HLq_17 := Lib.hid (HLq_16.out.below hb (Nat.le_refl _))
  clear hb
  go_wp2_with fail
  refine (HIS.out w17 HB17.out).mono ?_
  rintro e w18 ⟨rfl, hb⟩
  have HB18 := Lib.hid (HB17.out.trans (hb.mono HB17.out.size))
  have HBK18 := Lib.hid (HBK17.out.below hb HBK17.out.lt)
  have HTk_18 := Lib.hid (HTk_17.out.below hb (Nat.le_refl _))
  have HLm_18 := Lib.hid (HLm_17.out.below hb (Nat.le_refl _))
  have HTu_18 := Lib.hid (HTu_17.out.below hb (Nat.le_refl _))
  have HLn_18 := Lib.hid (HLn_17.out.below hb (Nat.le_refl _))
  have HTv_18 := Lib.hid (HTv_17.out.below hb (Nat.le_refl _))
  have HLq_18 := Lib.hid (HLq_17.out.below hb (Nat.le_refl _))
  clear hb
  go_wp2_with fail
  refine (HSAT.out w18 HB18.out _ HTk_18.out).mono ?_
  rintro e w19 ⟨rfl, hb⟩
  have HB19 := Lib.hid (HB18.out.trans (hb.mono HB18.out.size))
  have HBK19 := Lib.hid (HBK18.out.below hb HBK18.out.lt)
  have HTk_19 := Lib.hid (HTk_18.out.below hb (Nat.le_refl _))
  have HLm_19 := Lib.hid (HLm_18.out.below hb (Nat.le_refl _))
  have HTu_19 := Lib.hid (HTu_18.out.below hb (Nat.le_refl _))
  have HLn_19 := Lib.hid (HLn_18.out.below hb (Nat.le_refl _))
  have HTv_19 := Lib.hid (HTv_18.out.below hb (Nat.le_refl _))
  have HLq_19 := Lib.hid (HLq_18.out.below hb (Nat.le_refl _))
  clear hb
  go_wp2_with fail
  go_ret
  exact ⟨rfl, HB19.out⟩
set_option maxRecDepth 100000 in
set_option maxHeartbeats 16000000 in
theorem tkeep_mem {w : World} (v : Value) (c : Array Value) (t : List NodeD) (l : LeafD) (p : Nat) (h : TreeR w v t) (hl : LeafC w l c) (hok : TreeOk t) (hlk : LeafOk l) (hs : smallT t = true) (hsl : smallB ⟨0, l, noParD⟩ = true) (hr : rightT t = true) (hf : leafOkB l = true) (d : Nat) (hd : d ≤ 9) (hlen : t.length + 1 = 2 * 2 ^ d) (hp : p < 2 ^ d) (hk : (nd t (2 * p)).kind = 1) :
    Calls Try.prog 6 #[v, .agg c, .int .i64 (p : Nat)] w fun e w' => e = .returned (.bool true) ∧ Below w.heap.size w w' := by
  have hm := smallT_med hs
  have hl40 := smallT_len hs
  have hls : SmallL l := leafOk_small hf
  have hsrc := hlk.source
  have hpd : 2 ^ d ≤ 32 := by omega
  have hl2d : t.length = 2 * (2 ^ d - 1) + 1 := by have := pow_pos' d; omega
  have hN : leavesN t.length = (2 ^ d - 1) + 1 := by rw [leavesN_pow (d := d) (by omega) hlen]; have := pow_pos' d; omega
  have hN2 : 2 ^ d - 1 + 1 = 2 ^ d := by have := pow_pos' d; omega
  obtain ⟨hh, hhe⟩ : ∃ hh, hh = 2 ^ d - 1 := ⟨_, rfl⟩
  rw [← hhe] at hl2d hN hN2
  obtain ⟨e, i, hK, hadd⟩ := keep_add hr hok hs hlen l hls hsrc hf
  have hpe := hK.pow
  have hU := keepU_len (l := l) hK
  have hrU := keepU_right hK hf
  have hmU := keepU_med hK hf
  have hoU := keepU_ok hK hlk
  have hrV := keepV_right hK hf
  have hmV := keepV_med hK hf
  have hoV := keepV_ok hK hlk
  have hVU := keepV_le (l := l) hK
  have hmu := keepU_mem hK hf
  have hmv := keepV_mem hK hf
  have hne1 := keepU_ne1 hK hf
  have hkU : (nd (keepU t l e i) (2 * i)).kind = 1 := by rw [keepU_even hK, if_pos rfl]
  have hnU : nd (keepU t l e i) (2 * i) = heldD l := by rw [keepU_nd hK (by have := hK.hi; omega), addF_leaf]
  have hUh : (keepU t l e i).length = 2 * (2 ^ e - 1) + 1 := by omega
  have hUN : leavesN (keepU t l e i).length = (2 ^ e - 1) + 1 := by rw [leavesN_pow (d := e) (by have := hK.e5; omega) hU]; omega
  have hin : ((i : Nat) : Int) ∉ rmemL t (hh + 1) := by rw [hN2]; exact fun hc => hK.free ((mem_iff t _ i).1 hc).2
  have hi32 : i < 32 := by have := hK.hi; omega
  have TB := fun (W : World) (hw : Below w.heap.size w W) => h.below hw (Nat.le_refl _)
  have LB := fun (W : World) (hw : Below w.heap.size w W) => hl.below hw (Nat.le_refl _)
  have hrW := keepW_right hK hf hp hk
  have hmw := keepW_mem hK hf hp hk
  have hp32 : p < 32 := by omega
  obtain ⟨a1, c1, a2, c2, a3, c3, a4, c4, a5, c5, rfl, -⟩ := held_c hl
  have AL := fun (W : World) (hw : Below w.heap.size w W) => alive17 W
  have SM := fun (W : World) (hw : Below w.heap.size w W) => tsmall_any v t W (TB W hw)
  have SL := fun (W : World) (hw : Below w.heap.size w W) => smallLeaf_any l _ W (LB W hw)
  have TR := fun (W : World) (hw : Below w.heap.size w W) => tright_med v t W (TB W hw) hm hok
  have RRL := fun (W : World) (hw : Below w.heap.size w W) => rrightLeafT_any l _ W (LB W hw)
  have CP := fun (W : World) (hw : Below w.heap.size w W) => treeCopy_med v t W (TB W hw) hm
  have ME := fun (W : World) (hw : Below w.heap.size w W) => tmembers_yes_med v t W (TB W hw) hm hok hr
  have AD := fun (W : World) (hw : Below w.heap.size w W) => hadd v _ W (TB W hw) (LB W hw)
  have TRU := fun (W : World) (x : Value) (hx : TreeR W x (keepU t l e i)) => tright_med x _ W hx hmU hoU
  have MEU := fun (W : World) (x : Value) (hx : TreeR W x (keepU t l e i)) => tmembers_yes_med x _ W hx hmU hoU hrU
  have ISA := fun (W : World) (hw : Below w.heap.size w W) => ris_any v t hh (i : Nat) W (TB W hw) hok hl2d (by omega)
  have LF := fun (W : World) (x : Value) (hx : TreeR W x (keepU t l e i)) => tleaf_yes_med x _ (2 ^ e - 1) i W hx hmU hoU hrU hUh hUN ((mem_iff _ _ i).2 ⟨by have := hK.hi; omega, hkU⟩)
  have SLF := fun (W : World) (c1 : Array Value) (h1 : LeafC W l c1) (hw : Below w.heap.size w W) => rsameLeaf_any l l c1 _ W h1 (LB W hw) hlk hlk
  have RM := fun (W : World) (x : Value) (hx : TreeR W x (keepU t l e i)) => (show Calls Try.prog 16 #[x, .int .i64 (i : Nat)] W fun y w' => ∃ v', y = .returned (.tuple #[v', .int .u8 0]) ∧ TreeR w' v' (keepV t l e i) ∧ Below W.heap.size W w' from trem_yes x _ i e W hx hmU hoU hrU hU (by have := hK.e5; omega) hK.hi hkU hne1)
  have TRV := fun (W : World) (x : Value) (hx : TreeR W x (keepV t l e i)) => tright_med x _ W hx hmV hoV
  have MEV := fun (W : World) (x : Value) (hx : TreeR W x (keepV t l e i)) => tmembers_yes_med x _ W hx hmV hoV hrV
  have IS := fun (W : World) (hw : Below w.heap.size w W) => ris_any v t hh (p : Nat) W (TB W hw) hok hl2d (by omega)
  have SAT := fun (W : World) (hw : Below w.heap.size w W) => fun (x : Value) (hx : TreeR W x t) => tsameP_any v x t W (TB W hw) hx (by omega) (fun y => by have := of_decide_eq_true (smallT_nd hs y); omega)
  have UP := fun (W : World) (hw : Below w.heap.size w W) => tupd_yes v _ t l p d W (TB W hw) (LB W hw) hm hok hr hls hsrc hf hlen (by omega) hp hk
  have TRW := fun (W : World) (x : Value) (hx : TreeR W x (listT t.length (setF t p (heldD l)))) => tright_med x _ W hx (right_med hrW (by rw [listT_len]; omega)) (setF_ok hok p (held_ok hlk) _)
  have MEW := fun (W : World) (x : Value) (hx : TreeR W x (listT t.length (setF t p (heldD l)))) => tmembers_yes_med x _ W hx (right_med hrW (by rw [listT_len]; omega)) (setF_ok hok p (held_ok hlk) _) hrW
  rw [hs] at SM
  rw [hsl] at SL
  rw [hr] at TR
  rw [hf] at RRL
  rw [hrU] at TRU
  rw [hrV] at TRV
  rw [decide_eq_false hin] at ISA
  rw [hmv] at MEV
  rw [sameLB_refl] at SLF
  rw [hnU] at LF
  rw [hN2, decide_eq_true ((mem_iff t (2 ^ d) p).2 ⟨hp, hk⟩)] at IS
  rw [hrW] at TRW
  simp only [listT_len, hmw] at MEW
  have SAI := fun (W : World) (x y : Value) (hx : Rd W x (ivs .i64 (memL t t.length))) (hy : Rd W y (ivs .i64 (memL t t.length))) => (show Calls Try.prog 28 #[x, y] W fun e w' => e = .returned (.bool true) ∧ Below W.heap.size W w' from by
    have := sameI_any x y _ _ W hx hy
    rw [decide_eq_true rfl] at this
    refine this.mono ?_
    rintro e w' ⟨rfl, n, rfl⟩
    exact ⟨rfl, below_drewN' (Below.refl _ _) n⟩)
  obtain ⟨U, hUe⟩ : ∃ U, U = keepU t l e i := ⟨_, rfl⟩
  obtain ⟨V, hVe⟩ : ∃ V, V = keepV t l e i := ⟨_, rfl⟩
  simp only [← hUe] at AD TRU MEU LF RM hmu hVU hU
  simp only [← hVe] at RM TRV MEV hVU
  obtain ⟨WT1, hWe⟩ : ∃ W, W = listT t.length (setF t p (heldD l)) := ⟨_, rfl⟩
  simp only [← hWe] at UP TRW MEW
  have hWl : WT1.length = t.length := by rw [hWe, listT_len]
  obtain ⟨nu, hnu⟩ : ∃ n, n = U.length := ⟨_, rfl⟩
  obtain ⟨nv, hnv⟩ : ∃ n, n = V.length := ⟨_, rfl⟩
  rw [← hnu, ← hnv] at hVU
  obtain ⟨MU, hMU⟩ : ∃ M, M = memL U U.length := ⟨_, rfl⟩
  rw [← hMU] at MEU hmu
  obtain ⟨ML, hML⟩ : ∃ M, M = memL t t.length := ⟨_, rfl⟩
  simp only [← hML] at ME MEV SAI hmu MEW
  have hml5 : ML.length ≤ 100 := by rw [hML]; have := memL_len t t.length; omega
  obtain ⟨ml, hml⟩ : ∃ k, k = ML.length := ⟨_, rfl⟩
  rw [← hml] at hmu hml5
  have HLT := Lib.hid LB
  obtain ⟨a, c0, rfl, hc0, hc1⟩ := h.sl
  obtain ⟨n, hn⟩ : ∃ n, n = t.length := ⟨_, rfl⟩
  simp only [← hn] at SM TR CP ME AD ISA IS SAT hc0 UP hWl ⊢
  obtain ⟨l1, hl1⟩ : ∃ x, x = l.box.length := ⟨_, rfl⟩
  obtain ⟨l2, hl2⟩ : ∃ x, x = l.sign.length := ⟨_, rfl⟩
  obtain ⟨l3, hl3⟩ : ∃ x, x = l.ident.length := ⟨_, rfl⟩
  obtain ⟨l4, hl4⟩ : ∃ x, x = l.par.length := ⟨_, rfl⟩
  obtain ⟨l5, hl5⟩ : ∃ x, x = l.sig.length := ⟨_, rfl⟩
  obtain ⟨s, hsr⟩ : ∃ s, s = l.source := ⟨_, rfl⟩
  have HE1 := Lib.hid hl1.symm
  have HE2 := Lib.hid hl2.symm
  have HE3 := Lib.hid hl3.symm
  have HE4 := Lib.hid hl4.symm
  have HE5 := Lib.hid hl5.symm
  have HES := Lib.hid hsr.symm
  simp only [← hl1, ← hl2, ← hl3, ← hl4, ← hl5, ← hsr] at SL RRL AD SLF HLT UP ⊢
  have HAL := Lib.hid AL
  have HSM := Lib.hid SM
  have HSL := Lib.hid SL
  have HTR := Lib.hid TR
  have HRRL := Lib.hid RRL
  have HCP := Lib.hid CP
  have HME := Lib.hid ME
  have HAD := Lib.hid AD
  have HTRU := Lib.hid TRU
  have HMEU := Lib.hid MEU
  have HISA := Lib.hid ISA
  have HLF := Lib.hid LF
  have HSLF := Lib.hid SLF
  have HRM := Lib.hid RM
  have HTRV := Lib.hid TRV
  have HMEV := Lib.hid MEV
  have HIS := Lib.hid IS
  have HSAT := Lib.hid SAT
  have HUP := Lib.hid UP
  have HTRW := Lib.hid TRW
  have HMEW := Lib.hid MEW
  have HSAI := Lib.hid SAI
  have HMLEN := Lib.hid hml
  have HMU := Lib.hid hmu
  have HNU := Lib.hid hnu
  have HNV := Lib.hid hnv
  have hu100 : nu ≤ 200 := by omega
  have HWL := Lib.hid hWl
  have hgt : decide ((nv : Int) > (nu : Int)) = false := decide_eq_false (by omega)
  have hgt2 : decide (nu < nv) = false := decide_eq_false (by omega)
  have hgt3 : decide ((nu : Int) < (nv : Int)) = false := decide_eq_false (by omega)
  clear AL SM SL TR RRL CP ME AD TRU MEU ISA LF SLF RM TRV MEV IS SAT UP TRW MEW SAI TB LB hl1 hl2 hl3 hl4 hl5 hsr h hl hok hlk hn hs hsl hr hf hd hlen hm hl40 hls hsrc hpd hl2d hN hN2 hhe hadd hpe hU hrU hmU hoU hrV hmV hoV hVU hmu hmv hne1 hkU hnU hUh hUN hin hK hUe hVe hnu hnv hMU hML hml hp hk hrW hmw hWe hWl
  go_enter Try.func6, Try.ntmps6
  go_wp2_with fail
  have HBK0 := Lib.hid (Blk.new w 25 #[.slice a1 l1 c1, .slice a2 l2 c2, .slice a3 l3 c3, .int .u8 (s : Nat), .slice a4 l4 c4, .slice a5 l5 c5])
  have HB0 := Lib.hid ((Below.refl w.heap.size w).alloc (Nat.le_refl _) (.cells #[.slice a1 l1 c1, .slice a2 l2 c2, .slice a3 l3 c3, .int .u8 (s : Nat), .slice a4 l4 c4, .slice a5 l5 c5] 25))
  generalize hw0 : w.alloc (.cells #[.slice a1 l1 c1, .slice a2 l2 c2, .slice a3 l3 c3, .int .u8 (s : Nat), .slice a4 l4 c4, .slice a5 l5 c5] 25) = w0 at HBK0 HB0 ⊢
  clear hw0
  go_wp2_with fail
  refine (HAL.out w0 HB0.out).mono ?_
  rintro e w1 ⟨rfl, hb⟩
  have HB1 := Lib.hid (HB0.out.trans (hb.mono HB0.out.size))
  have HBK1 := Lib.hid (HBK0.out.below hb HBK0.out.lt)
  clear hb
  go_wp2_with fail
  refine (HSM.out w1 HB1.out).mono ?_
  rintro e w2 ⟨rfl, hb⟩
  have HB2 := Lib.hid (HB1.out.trans (hb.mono HB1.out.size))
  have HBK2 := Lib.hid (HBK1.out.below hb HBK1.out.lt)
  clear hb
  go_wp2_with (first | (refine wpList_load_at rfl 25 (.tmp 4) rfl w.heap.size rfl 25 #[.slice a1 l1 c1, .slice a2 l2 c2, .slice a3 l3 c3, .int .u8 (s : Nat), .slice a4 l4 c4, .slice a5 l5 c5] (0, 0) _ HBK2.out Try.underlying25 rfl (by kernel_rfl) ?_) | (refine wpList_wanted rfl ?_; refine wpList_load_at rfl 25 (.tmp 4) rfl w.heap.size rfl 25 #[.slice a1 l1 c1, .slice a2 l2 c2, .slice a3 l3 c3, .int .u8 (s : Nat), .slice a4 l4 c4, .slice a5 l5 c5] (0, 0) _ HBK2.out Try.underlying25 rfl (by kernel_rfl) ?_) | (refine wpList_wanted rfl ?_; refine wpList_load_at rfl 25 (.tmp 4) rfl w.heap.size rfl 25 #[.slice a1 l1 c1, .slice a2 l2 c2, .slice a3 l3 c3, .int .u8 (s : Nat), .slice a4 l4 c4, .slice a5 l5 c5] (0, 0) _ (HBK2.out.alloc _) Try.underlying25 rfl (by kernel_rfl) ?_))
  refine (HSL.out w2 HB2.out).mono ?_
  rintro e w3 ⟨rfl, hb⟩
  have HB3 := Lib.hid (HB2.out.trans (hb.mono HB2.out.size))
  have HBK3 := Lib.hid (HBK2.out.below hb HBK2.out.lt)
  clear hb
  go_wp2_with fail
  refine (HTR.out w3 HB3.out).mono ?_
  rintro e w4 ⟨rfl, hb⟩
  have HB4 := Lib.hid (HB3.out.trans (hb.mono HB3.out.size))
  have HBK4 := Lib.hid (HBK3.out.below hb HBK3.out.lt)
  clear hb
  go_wp2_with (first | (refine wpList_load_at rfl 25 (.tmp 4) rfl w.heap.size rfl 25 #[.slice a1 l1 c1, .slice a2 l2 c2, .slice a3 l3 c3, .int .u8 (s : Nat), .slice a4 l4 c4, .slice a5 l5 c5] (0, 0) _ HBK4.out Try.underlying25 rfl (by kernel_rfl) ?_) | (refine wpList_wanted rfl ?_; refine wpList_load_at rfl 25 (.tmp 4) rfl w.heap.size rfl 25 #[.slice a1 l1 c1, .slice a2 l2 c2, .slice a3 l3 c3, .int .u8 (s : Nat), .slice a4 l4 c4, .slice a5 l5 c5] (0, 0) _ HBK4.out Try.underlying25 rfl (by kernel_rfl) ?_) | (refine wpList_wanted rfl ?_; refine wpList_load_at rfl 25 (.tmp 4) rfl w.heap.size rfl 25 #[.slice a1 l1 c1, .slice a2 l2 c2, .slice a3 l3 c3, .int .u8 (s : Nat), .slice a4 l4 c4, .slice a5 l5 c5] (0, 0) _ (HBK4.out.alloc _) Try.underlying25 rfl (by kernel_rfl) ?_))
  refine (HRRL.out w4 HB4.out).mono ?_
  rintro e w5 ⟨rfl, hb⟩
  have HB5 := Lib.hid (HB4.out.trans (hb.mono HB4.out.size))
  have HBK5 := Lib.hid (HBK4.out.below hb HBK4.out.lt)
  clear hb
  go_wp2_with fail
  refine (HCP.out w5 HB5.out).mono ?_
  rintro e w6 ⟨vk, rfl, hto, hb⟩
  have HB6 := Lib.hid (HB5.out.trans (hb.mono HB5.out.size))
  have HBK6 := Lib.hid (HBK5.out.below hb HBK5.out.lt)
  have HTk_6 := Lib.hid (hto.r)
  obtain ⟨xk, zk, rfl, hlzk, hmzk⟩ := (hto.r).sl
  clear hto
  clear hb
  go_wp2_with fail
  refine (HME.out w6 HB6.out).mono ?_
  rintro e w7 ⟨vm, rfl, hown, hb⟩
  have HB7 := Lib.hid (HB6.out.trans (hb.mono HB6.out.size))
  have HBK7 := Lib.hid (HBK6.out.below hb HBK6.out.lt)
  have HTk_7 := Lib.hid (HTk_6.out.below hb (Nat.le_refl _))
  have HLm_7 := Lib.hid (hown.rd)
  obtain ⟨xm, zm, rfl⟩ : ∃ a c, vm = .slice a ml c := by obtain ⟨a, c, e, _⟩ := hown.rd; rw [ivs_len', ← HMLEN.out] at e; exact ⟨a, c, e⟩
  clear hown
  clear hb
  go_wp2_with (first | (refine wpList_load_at rfl 25 (.tmp 4) rfl w.heap.size rfl 25 #[.slice a1 l1 c1, .slice a2 l2 c2, .slice a3 l3 c3, .int .u8 (s : Nat), .slice a4 l4 c4, .slice a5 l5 c5] (0, 0) _ HBK7.out Try.underlying25 rfl (by kernel_rfl) ?_) | (refine wpList_wanted rfl ?_; refine wpList_load_at rfl 25 (.tmp 4) rfl w.heap.size rfl 25 #[.slice a1 l1 c1, .slice a2 l2 c2, .slice a3 l3 c3, .int .u8 (s : Nat), .slice a4 l4 c4, .slice a5 l5 c5] (0, 0) _ HBK7.out Try.underlying25 rfl (by kernel_rfl) ?_) | (refine wpList_wanted rfl ?_; refine wpList_load_at rfl 25 (.tmp 4) rfl w.heap.size rfl 25 #[.slice a1 l1 c1, .slice a2 l2 c2, .slice a3 l3 c3, .int .u8 (s : Nat), .slice a4 l4 c4, .slice a5 l5 c5] (0, 0) _ (HBK7.out.alloc _) Try.underlying25 rfl (by kernel_rfl) ?_))
  refine (HAD.out w7 HB7.out).mono ?_
  rintro e w8 ⟨vu, rfl, hto, hb⟩
  have HB8 := Lib.hid (HB7.out.trans (hb.mono HB7.out.size))
  have HBK8 := Lib.hid (HBK7.out.below hb HBK7.out.lt)
  have HTk_8 := Lib.hid (HTk_7.out.below hb (Nat.le_refl _))
  have HLm_8 := Lib.hid (HLm_7.out.below hb (Nat.le_refl _))
  have HTu_8 := Lib.hid (hto)
  obtain ⟨xu, zu, rfl, hlzu, hmzu⟩ := (hto).sl
  rw [← HNU.out] at HTu_8 ⊢
  clear hto
  clear hb
  go_wp2_with fail
  refine (HTRU.out w8 _ HTu_8.out).mono ?_
  rintro e w9 ⟨rfl, hb⟩
  have HB9 := Lib.hid (HB8.out.trans (hb.mono HB8.out.size))
  have HBK9 := Lib.hid (HBK8.out.below hb HBK8.out.lt)
  have HTk_9 := Lib.hid (HTk_8.out.below hb (Nat.le_refl _))
  have HLm_9 := Lib.hid (HLm_8.out.below hb (Nat.le_refl _))
  have HTu_9 := Lib.hid (HTu_8.out.below hb (Nat.le_refl _))
  clear hb
  go_wp2_with fail
  refine (HMEU.out w9 _ HTu_9.out).mono ?_
  rintro e w10 ⟨vn, rfl, hown, hb⟩
  have HB10 := Lib.hid (HB9.out.trans (hb.mono HB9.out.size))
  have HBK10 := Lib.hid (HBK9.out.below hb HBK9.out.lt)
  have HTk_10 := Lib.hid (HTk_9.out.below hb (Nat.le_refl _))
  have HLm_10 := Lib.hid (HLm_9.out.below hb (Nat.le_refl _))
  have HTu_10 := Lib.hid (HTu_9.out.below hb (Nat.le_refl _))
  have HLn_10 := Lib.hid (hown.rd)
  obtain ⟨xn, zn, rfl⟩ : ∃ a c, vn = .slice a (ml + 1) c := by obtain ⟨a, c, e, _⟩ := hown.rd; rw [ivs_len', HMU.out] at e; exact ⟨a, c, e⟩
  clear hown
  clear hb
  go_wp2_with fail
  refine (HISA.out w10 HB10.out).mono ?_
  rintro e w11 ⟨rfl, hb⟩
  have HB11 := Lib.hid (HB10.out.trans (hb.mono HB10.out.size))
  have HBK11 := Lib.hid (HBK10.out.below hb HBK10.out.lt)
  have HTk_11 := Lib.hid (HTk_10.out.below hb (Nat.le_refl _))
  have HLm_11 := Lib.hid (HLm_10.out.below hb (Nat.le_refl _))
  have HTu_11 := Lib.hid (HTu_10.out.below hb (Nat.le_refl _))
  have HLn_11 := Lib.hid (HLn_10.out.below hb (Nat.le_refl _))
  clear hb
  go_wp2_with fail
  refine (HLF.out w11 _ HTu_11.out).mono ?_
  rintro e w12 ⟨c6, rfl, hlc, hb⟩
  have HB12 := Lib.hid (HB11.out.trans (hb.mono HB11.out.size))
  have HBK12 := Lib.hid (HBK11.out.below hb HBK11.out.lt)
  have HTk_12 := Lib.hid (HTk_11.out.below hb (Nat.le_refl _))
  have HLm_12 := Lib.hid (HLm_11.out.below hb (Nat.le_refl _))
  have HTu_12 := Lib.hid (HTu_11.out.below hb (Nat.le_refl _))
  have HLn_12 := Lib.hid (HLn_11.out.below hb (Nat.le_refl _))
  obtain ⟨b1, d1, b2, d2, b3, d3, b4, d4, b5, d5, rfl, -⟩ := id hlc
  have hlc : LeafC w12 l _ := hlc
  simp only [show (heldD l).leaf = l from rfl, HE1.out, HE2.out, HE3.out, HE4.out, HE5.out, HES.out] at hlc ⊢
  have HLC_12 := Lib.hid (show LeafC w12 l _ from hlc)
  clear hb
  go_wp2_with (first | (refine wpList_load_at rfl 25 (.tmp 4) rfl w.heap.size rfl 25 #[.slice a1 l1 c1, .slice a2 l2 c2, .slice a3 l3 c3, .int .u8 (s : Nat), .slice a4 l4 c4, .slice a5 l5 c5] (0, 0) _ HBK12.out Try.underlying25 rfl (by kernel_rfl) ?_) | (refine wpList_wanted rfl ?_; refine wpList_load_at rfl 25 (.tmp 4) rfl w.heap.size rfl 25 #[.slice a1 l1 c1, .slice a2 l2 c2, .slice a3 l3 c3, .int .u8 (s : Nat), .slice a4 l4 c4, .slice a5 l5 c5] (0, 0) _ HBK12.out Try.underlying25 rfl (by kernel_rfl) ?_) | (refine wpList_wanted rfl ?_; refine wpList_load_at rfl 25 (.tmp 4) rfl w.heap.size rfl 25 #[.slice a1 l1 c1, .slice a2 l2 c2, .slice a3 l3 c3, .int .u8 (s : Nat), .slice a4 l4 c4, .slice a5 l5 c5] (0, 0) _ (HBK12.out.alloc _) Try.underlying25 rfl (by kernel_rfl) ?_))
  have hba := (Below.refl w12.heap.size w12).alloc (Nat.le_refl _) (.cells #[.slice b1 l1 d1, .slice b2 l2 d2, .slice b3 l3 d3, .int .u8 (s : Nat), .slice b4 l4 d4, .slice b5 l5 d5] 25)
  refine (HSLF.out _ _ (HLC_12.out.below hba (Nat.le_refl _)) (HB12.out.trans (hba.mono HB12.out.size))).mono ?_
  rintro e w13 ⟨rfl, hb1⟩
  have hb := hba.trans (hb1.mono hba.size)
  have HB13 := Lib.hid (HB12.out.trans (hb.mono HB12.out.size))
  have HBK13 := Lib.hid (HBK12.out.below hb HBK12.out.lt)
  have HTk_13 := Lib.hid (HTk_12.out.below hb (Nat.le_refl _))
  have HLm_13 := Lib.hid (HLm_12.out.below hb (Nat.le_refl _))
  have HTu_13 := Lib.hid (HTu_12.out.below hb (Nat.le_refl _))
  have HLn_13 := Lib.hid (HLn_12.out.below hb (Nat.le_refl _))
  clear hb hb1 hba
  go_wp2_with fail
  refine (HRM.out w13 _ HTu_13.out).mono ?_
  rintro e w14 ⟨vv, rfl, hto, hb⟩
  have HB14 := Lib.hid (HB13.out.trans (hb.mono HB13.out.size))
  have HBK14 := Lib.hid (HBK13.out.below hb HBK13.out.lt)
  have HTk_14 := Lib.hid (HTk_13.out.below hb (Nat.le_refl _))
  have HLm_14 := Lib.hid (HLm_13.out.below hb (Nat.le_refl _))
  have HTu_14 := Lib.hid (HTu_13.out.below hb (Nat.le_refl _))
  have HLn_14 := Lib.hid (HLn_13.out.below hb (Nat.le_refl _))
  have HTv_14 := Lib.hid (hto)
  obtain ⟨xv, zv, rfl, hlzv, hmzv⟩ := (hto).sl
  rw [← HNV.out] at HTv_14 ⊢
  clear hto
  clear hb
  go_wp2_with fail
  refine (HTRV.out w14 _ HTv_14.out).mono ?_
  rintro e w15 ⟨rfl, hb⟩
  have HB15 := Lib.hid (HB14.out.trans (hb.mono HB14.out.size))
  have HBK15 := Lib.hid (HBK14.out.below hb HBK14.out.lt)
  have HTk_15 := Lib.hid (HTk_14.out.below hb (Nat.le_refl _))
  have HLm_15 := Lib.hid (HLm_14.out.below hb (Nat.le_refl _))
  have HTu_15 := Lib.hid (HTu_14.out.below hb (Nat.le_refl _))
  have HLn_15 := Lib.hid (HLn_14.out.below hb (Nat.le_refl _))
  have HTv_15 := Lib.hid (HTv_14.out.below hb (Nat.le_refl _))
  clear hb
  go_wp2_with fail
  refine (HMEV.out w15 _ HTv_15.out).mono ?_
  rintro e w16 ⟨vq, rfl, hown, hb⟩
  have HB16 := Lib.hid (HB15.out.trans (hb.mono HB15.out.size))
  have HBK16 := Lib.hid (HBK15.out.below hb HBK15.out.lt)
  have HTk_16 := Lib.hid (HTk_15.out.below hb (Nat.le_refl _))
  have HLm_16 := Lib.hid (HLm_15.out.below hb (Nat.le_refl _))
  have HTu_16 := Lib.hid (HTu_15.out.below hb (Nat.le_refl _))
  have HLn_16 := Lib.hid (HLn_15.out.below hb (Nat.le_refl _))
  have HTv_16 := Lib.hid (HTv_15.out.below hb (Nat.le_refl _))
  have HLq_16 := Lib.hid (hown.rd)
  obtain ⟨xq, zq, rfl⟩ : ∃ a c, vq = .slice a ml c := by obtain ⟨a, c, e, _⟩ := hown.rd; rw [ivs_len', ← HMLEN.out] at e; exact ⟨a, c, e⟩
  clear hown
  clear hb
  go_wp2_with fail
  refine (HSAI.out w16 _ _ HLq_16.out HLm_16.out).mono ?_
  rintro e w17 ⟨rfl, hb⟩
  have HB17 := Lib.hid (HB16.out.trans (hb.mono HB16.out.size))
  have HBK17 := Lib.hid (HBK16.out.below hb HBK16.out.lt)
  have HTk_17 := Lib.hid (HTk_16.out.below hb (Nat.le_refl _))
  have HLm_17 := Lib.hid (HLm_16.out.below hb (Nat.le_refl _))
  have HTu_17 := Lib.hid (HTu_16.out.below hb (Nat.le_refl _))
  have HLn_17 := Lib.hid (HLn_16.out.below hb (Nat.le_refl _))
  have HTv_17 := Lib.hid (HTv_16.out.below hb (Nat.le_refl _))
  have HLq_17 := Lib.hid (HLq_16.out.below hb (Nat.le_refl _))
  clear hb
  go_wp2_with fail
  refine (HIS.out w17 HB17.out).mono ?_
  rintro e w18 ⟨rfl, hb⟩
  have HB18 := Lib.hid (HB17.out.trans (hb.mono HB17.out.size))
  have HBK18 := Lib.hid (HBK17.out.below hb HBK17.out.lt)
  have HTk_18 := Lib.hid (HTk_17.out.below hb (Nat.le_refl _))
  have HLm_18 := Lib.hid (HLm_17.out.below hb (Nat.le_refl _))
  have HTu_18 := Lib.hid (HTu_17.out.below hb (Nat.le_refl _))
  have HLn_18 := Lib.hid (HLn_17.out.below hb (Nat.le_refl _))
  have HTv_18 := Lib.hid (HTv_17.out.below hb (Nat.le_refl _))
  have HLq_18 := Lib.hid (HLq_17.out.below hb (Nat.le_refl _))
  clear hb
  go_wp2_with (first | (refine wpList_load_at rfl 25 (.tmp 4) rfl w.heap.size rfl 25 #[.slice a1 l1 c1, .slice a2 l2 c2, .slice a3 l3 c3, .int .u8 (s : Nat), .slice a4 l4 c4, .slice a5 l5 c5] (0, 0) _ HBK18.out Try.underlying25 rfl (by kernel_rfl) ?_) | (refine wpList_wanted rfl ?_; refine wpList_load_at rfl 25 (.tmp 4) rfl w.heap.size rfl 25 #[.slice a1 l1 c1, .slice a2 l2 c2, .slice a3 l3 c3, .int .u8 (s : Nat), .slice a4 l4 c4, .slice a5 l5 c5] (0, 0) _ HBK18.out Try.underlying25 rfl (by kernel_rfl) ?_) | (refine wpList_wanted rfl ?_; refine wpList_load_at rfl 25 (.tmp 4) rfl w.heap.size rfl 25 #[.slice a1 l1 c1, .slice a2 l2 c2, .slice a3 l3 c3, .int .u8 (s : Nat), .slice a4 l4 c4, .slice a5 l5 c5] (0, 0) _ (HBK18.out.alloc _) Try.underlying25 rfl (by kernel_rfl) ?_))
  refine (HUP.out w18 HB18.out).mono ?_
  rintro e w19 ⟨vw, rfl, hto, hb⟩
  have HB19 := Lib.hid (HB18.out.trans (hb.mono HB18.out.size))
  have HBK19 := Lib.hid (HBK18.out.below hb HBK18.out.lt)
  have HTk_19 := Lib.hid (HTk_18.out.below hb (Nat.le_refl _))
  have HLm_19 := Lib.hid (HLm_18.out.below hb (Nat.le_refl _))
  have HTu_19 := Lib.hid (HTu_18.out.below hb (Nat.le_refl _))
  have HLn_19 := Lib.hid (HLn_18.out.below hb (Nat.le_refl _))
  have HTv_19 := Lib.hid (HTv_18.out.below hb (Nat.le_refl _))
  have HLq_19 := Lib.hid (HLq_18.out.below hb (Nat.le_refl _))
  have HTw_19 := Lib.hid (hto.r)
  obtain ⟨xw, zw, rfl, hlzw, hmzw⟩ := (hto.r).sl
  rw [HWL.out] at HTw_19 ⊢
  clear hto
  clear hb
  go_wp2_with fail
  refine (HTRW.out w19 _ HTw_19.out).mono ?_
  rintro e w20 ⟨rfl, hb⟩
  have HB20 := Lib.hid (HB19.out.trans (hb.mono HB19.out.size))
  have HBK20 := Lib.hid (HBK19.out.below hb HBK19.out.lt)
  have HTk_20 := Lib.hid (HTk_19.out.below hb (Nat.le_refl _))
  have HLm_20 := Lib.hid (HLm_19.out.below hb (Nat.le_refl _))
  have HTu_20 := Lib.hid (HTu_19.out.below hb (Nat.le_refl _))
  have HLn_20 := Lib.hid (HLn_19.out.below hb (Nat.le_refl _))
  have HTv_20 := Lib.hid (HTv_19.out.below hb (Nat.le_refl _))
  have HLq_20 := Lib.hid (HLq_19.out.below hb (Nat.le_refl _))
  have HTw_20 := Lib.hid (HTw_19.out.below hb (Nat.le_refl _))
  clear hb
  go_wp2_with fail
  refine (HMEW.out w20 _ HTw_20.out).mono ?_
  rintro e w21 ⟨vr, rfl, hown, hb⟩
  have HB21 := Lib.hid (HB20.out.trans (hb.mono HB20.out.size))
  have HBK21 := Lib.hid (HBK20.out.below hb HBK20.out.lt)
  have HTk_21 := Lib.hid (HTk_20.out.below hb (Nat.le_refl _))
  have HLm_21 := Lib.hid (HLm_20.out.below hb (Nat.le_refl _))
  have HTu_21 := Lib.hid (HTu_20.out.below hb (Nat.le_refl _))
  have HLn_21 := Lib.hid (HLn_20.out.below hb (Nat.le_refl _))
  have HTv_21 := Lib.hid (HTv_20.out.below hb (Nat.le_refl _))
  have HLq_21 := Lib.hid (HLq_20.out.below hb (Nat.le_refl _))
  have HTw_21 := Lib.hid (HTw_20.out.below hb (Nat.le_refl _))
  have HLr_21 := Lib.hid (hown.rd)
  obtain ⟨xr, zr, rfl⟩ : ∃ a c, vr = .slice a ml c := by obtain ⟨a, c, e, _⟩ := hown.rd; rw [ivs_len', ← HMLEN.out] at e; exact ⟨a, c, e⟩
  clear hown
  clear hb
  go_wp2_with fail
  refine (HSAI.out w21 _ _ HLr_21.out HLm_21.out).mono ?_
  rintro e w22 ⟨rfl, hb⟩
  have HB22 := Lib.hid (HB21.out.trans (hb.mono HB21.out.size))
  have HBK22 := Lib.hid (HBK21.out.below hb HBK21.out.lt)
  have HTk_22 := Lib.hid (HTk_21.out.below hb (Nat.le_refl _))
  have HLm_22 := Lib.hid (HLm_21.out.below hb (Nat.le_refl _))
  have HTu_22 := Lib.hid (HTu_21.out.below hb (Nat.le_refl _))
  have HLn_22 := Lib.hid (HLn_21.out.below hb (Nat.le_refl _))
  have HTv_22 := Lib.hid (HTv_21.out.below hb (Nat.le_refl _))
  have HLq_22 := Lib.hid (HLq_21.out.below hb (Nat.le_refl _))
  have HTw_22 := Lib.hid (HTw_21.out.below hb (Nat.le_refl _))
  have HLr_22 := Lib.hid (HLr_21.out.below hb (Nat.le_refl _))
  clear hb
  go_wp2_with fail
  refine (HSAT.out w22 HB22.out _ HTk_22.out).mono ?_
  rintro e w23 ⟨rfl, hb⟩
  have HB23 := Lib.hid (HB22.out.trans (hb.mono HB22.out.size))
  have HBK23 := Lib.hid (HBK22.out.below hb HBK22.out.lt)
  have HTk_23 := Lib.hid (HTk_22.out.below hb (Nat.le_refl _))
  have HLm_23 := Lib.hid (HLm_22.out.below hb (Nat.le_refl _))
  have HTu_23 := Lib.hid (HTu_22.out.below hb (Nat.le_refl _))
  have HLn_23 := Lib.hid (HLn_22.out.below hb (Nat.le_refl _))
  have HTv_23 := Lib.hid (HTv_22.out.below hb (Nat.le_refl _))
  have HLq_23 := Lib.hid (HLq_22.out.below hb (Nat.le_refl _))
  have HTw_23 := Lib.hid (HTw_22.out.below hb (Nat.le_refl _))
  have HLr_23 := Lib.hid (HLr_22.out.below hb (Nat.le_refl _))
  clear hb
  go_wp2_with fail
  go_ret
  exact ⟨rfl, HB23.out⟩
set_option maxRecDepth 100000 in
set_option maxHeartbeats 8000000 in
theorem tkeep_big {w : World} (v : Value) (c : Array Value) (t : List NodeD) (l : LeafD) (p : Int) (h : TreeR w v t) (hl : LeafC w l c) (hok : TreeOk t) (hs : smallT t = false) :
    Calls Try.prog 6 #[v, .agg c, .int .i64 p] w fun e w' => e = .returned (.bool true) ∧ Below w.heap.size w w' := by
  have TB := fun (W : World) (hw : Below w.heap.size w W) => h.below hw (Nat.le_refl _)
  have LB := fun (W : World) (hw : Below w.heap.size w W) => hl.below hw (Nat.le_refl _)
  have AL := fun (W : World) (hw : Below w.heap.size w W) => alive17 W
  have SM := fun (W : World) (hw : Below w.heap.size w W) => tsmall_any v t W (TB W hw)
  rw [hs] at SM
  obtain ⟨a, n, c0, rfl⟩ : ∃ a n c, v = .slice a n c := by obtain ⟨a, c, e, _⟩ := h.sl; exact ⟨_, _, _, e⟩
  obtain ⟨a1, c1, a2, c2, a3, c3, a4, c4, a5, c5, rfl, -⟩ := id hl
  obtain ⟨l1, hl1⟩ : ∃ x, x = l.box.length := ⟨_, rfl⟩
  obtain ⟨l2, hl2⟩ : ∃ x, x = l.sign.length := ⟨_, rfl⟩
  obtain ⟨l3, hl3⟩ : ∃ x, x = l.ident.length := ⟨_, rfl⟩
  obtain ⟨l4, hl4⟩ : ∃ x, x = l.par.length := ⟨_, rfl⟩
  obtain ⟨l5, hl5⟩ : ∃ x, x = l.sig.length := ⟨_, rfl⟩
  obtain ⟨s, hsr⟩ : ∃ s, s = l.source := ⟨_, rfl⟩
  simp only [← hl1, ← hl2, ← hl3, ← hl4, ← hl5, ← hsr]
  have HAL := Lib.hid AL
  have HSM := Lib.hid SM
  clear TB LB AL SM hl1 hl2 hl3 hl4 hl5 hsr h hl hok hs
  go_enter Try.func6, Try.ntmps6
  go_wp2_with fail
  have HBK0 := Lib.hid (Blk.new w 25 #[.slice a1 l1 c1, .slice a2 l2 c2, .slice a3 l3 c3, .int .u8 (s : Nat), .slice a4 l4 c4, .slice a5 l5 c5])
  have HB0 := Lib.hid ((Below.refl w.heap.size w).alloc (Nat.le_refl _) (.cells #[.slice a1 l1 c1, .slice a2 l2 c2, .slice a3 l3 c3, .int .u8 (s : Nat), .slice a4 l4 c4, .slice a5 l5 c5] 25))
  generalize hw0 : w.alloc (.cells #[.slice a1 l1 c1, .slice a2 l2 c2, .slice a3 l3 c3, .int .u8 (s : Nat), .slice a4 l4 c4, .slice a5 l5 c5] 25) = w0 at HBK0 HB0 ⊢
  clear hw0
  go_wp2_with fail
  refine (HAL.out w0 HB0.out).mono ?_
  rintro e w1 ⟨rfl, hb⟩
  have HB1 := Lib.hid (HB0.out.trans (hb.mono HB0.out.size))
  have HBK1 := Lib.hid (HBK0.out.below hb HBK0.out.lt)
  clear hb
  go_wp2_with fail
  refine (HSM.out w1 HB1.out).mono ?_
  rintro e w2 ⟨rfl, hb⟩
  have HB2 := Lib.hid (HB1.out.trans (hb.mono HB1.out.size))
  have HBK2 := Lib.hid (HBK1.out.below hb HBK1.out.lt)
  clear hb
  go_wp2_with fail
  go_ret
  exact ⟨rfl, HB2.out⟩
set_option maxRecDepth 100000 in
set_option maxHeartbeats 8000000 in
theorem tkeep_bigL {w : World} (v : Value) (c : Array Value) (t : List NodeD) (l : LeafD) (p : Int) (h : TreeR w v t) (hl : LeafC w l c) (hok : TreeOk t) (hs : smallT t = true) (hsl : smallB ⟨0, l, noParD⟩ = false) :
    Calls Try.prog 6 #[v, .agg c, .int .i64 p] w fun e w' => e = .returned (.bool true) ∧ Below w.heap.size w w' := by
  have TB := fun (W : World) (hw : Below w.heap.size w W) => h.below hw (Nat.le_refl _)
  have LB := fun (W : World) (hw : Below w.heap.size w W) => hl.below hw (Nat.le_refl _)
  have AL := fun (W : World) (hw : Below w.heap.size w W) => alive17 W
  have SM := fun (W : World) (hw : Below w.heap.size w W) => tsmall_any v t W (TB W hw)
  have SL := fun (W : World) (hw : Below w.heap.size w W) => smallLeaf_any l _ W (LB W hw)
  rw [hs] at SM
  rw [hsl] at SL
  obtain ⟨a, n, c0, rfl⟩ : ∃ a n c, v = .slice a n c := by obtain ⟨a, c, e, _⟩ := h.sl; exact ⟨_, _, _, e⟩
  obtain ⟨a1, c1, a2, c2, a3, c3, a4, c4, a5, c5, rfl, -⟩ := id hl
  obtain ⟨l1, hl1⟩ : ∃ x, x = l.box.length := ⟨_, rfl⟩
  obtain ⟨l2, hl2⟩ : ∃ x, x = l.sign.length := ⟨_, rfl⟩
  obtain ⟨l3, hl3⟩ : ∃ x, x = l.ident.length := ⟨_, rfl⟩
  obtain ⟨l4, hl4⟩ : ∃ x, x = l.par.length := ⟨_, rfl⟩
  obtain ⟨l5, hl5⟩ : ∃ x, x = l.sig.length := ⟨_, rfl⟩
  obtain ⟨s, hsr⟩ : ∃ s, s = l.source := ⟨_, rfl⟩
  simp only [← hl1, ← hl2, ← hl3, ← hl4, ← hl5, ← hsr] at SL ⊢
  have HAL := Lib.hid AL
  have HSM := Lib.hid SM
  have HSL := Lib.hid SL
  clear TB LB AL SM SL hl1 hl2 hl3 hl4 hl5 hsr h hl hok hs hsl
  go_enter Try.func6, Try.ntmps6
  go_wp2_with fail
  have HBK0 := Lib.hid (Blk.new w 25 #[.slice a1 l1 c1, .slice a2 l2 c2, .slice a3 l3 c3, .int .u8 (s : Nat), .slice a4 l4 c4, .slice a5 l5 c5])
  have HB0 := Lib.hid ((Below.refl w.heap.size w).alloc (Nat.le_refl _) (.cells #[.slice a1 l1 c1, .slice a2 l2 c2, .slice a3 l3 c3, .int .u8 (s : Nat), .slice a4 l4 c4, .slice a5 l5 c5] 25))
  generalize hw0 : w.alloc (.cells #[.slice a1 l1 c1, .slice a2 l2 c2, .slice a3 l3 c3, .int .u8 (s : Nat), .slice a4 l4 c4, .slice a5 l5 c5] 25) = w0 at HBK0 HB0 ⊢
  clear hw0
  go_wp2_with fail
  refine (HAL.out w0 HB0.out).mono ?_
  rintro e w1 ⟨rfl, hb⟩
  have HB1 := Lib.hid (HB0.out.trans (hb.mono HB0.out.size))
  have HBK1 := Lib.hid (HBK0.out.below hb HBK0.out.lt)
  clear hb
  go_wp2_with fail
  refine (HSM.out w1 HB1.out).mono ?_
  rintro e w2 ⟨rfl, hb⟩
  have HB2 := Lib.hid (HB1.out.trans (hb.mono HB1.out.size))
  have HBK2 := Lib.hid (HBK1.out.below hb HBK1.out.lt)
  clear hb
  go_wp2_with (first | (refine wpList_load_at rfl 25 (.tmp 4) rfl w.heap.size rfl 25 #[.slice a1 l1 c1, .slice a2 l2 c2, .slice a3 l3 c3, .int .u8 (s : Nat), .slice a4 l4 c4, .slice a5 l5 c5] (0, 0) _ HBK2.out Try.underlying25 rfl (by kernel_rfl) ?_) | (refine wpList_wanted rfl ?_; refine wpList_load_at rfl 25 (.tmp 4) rfl w.heap.size rfl 25 #[.slice a1 l1 c1, .slice a2 l2 c2, .slice a3 l3 c3, .int .u8 (s : Nat), .slice a4 l4 c4, .slice a5 l5 c5] (0, 0) _ HBK2.out Try.underlying25 rfl (by kernel_rfl) ?_) | (refine wpList_wanted rfl ?_; refine wpList_load_at rfl 25 (.tmp 4) rfl w.heap.size rfl 25 #[.slice a1 l1 c1, .slice a2 l2 c2, .slice a3 l3 c3, .int .u8 (s : Nat), .slice a4 l4 c4, .slice a5 l5 c5] (0, 0) _ (HBK2.out.alloc _) Try.underlying25 rfl (by kernel_rfl) ?_))
  refine (HSL.out w2 HB2.out).mono ?_
  rintro e w3 ⟨rfl, hb⟩
  have HB3 := Lib.hid (HB2.out.trans (hb.mono HB2.out.size))
  have HBK3 := Lib.hid (HBK2.out.below hb HBK2.out.lt)
  clear hb
  go_wp2_with fail
  go_ret
  exact ⟨rfl, HB3.out⟩
set_option maxRecDepth 100000 in
set_option maxHeartbeats 8000000 in
theorem tkeep_no {w : World} (v : Value) (c : Array Value) (t : List NodeD) (l : LeafD) (p : Int) (h : TreeR w v t) (hl : LeafC w l c) (hok : TreeOk t) (hs : smallT t = true) (hsl : smallB ⟨0, l, noParD⟩ = true) (hr : rightT t = false) :
    Calls Try.prog 6 #[v, .agg c, .int .i64 p] w fun e w' => e = .returned (.bool true) ∧ Below w.heap.size w w' := by
  have TB := fun (W : World) (hw : Below w.heap.size w W) => h.below hw (Nat.le_refl _)
  have LB := fun (W : World) (hw : Below w.heap.size w W) => hl.below hw (Nat.le_refl _)
  have hm := smallT_med hs
  have AL := fun (W : World) (hw : Below w.heap.size w W) => alive17 W
  have SM := fun (W : World) (hw : Below w.heap.size w W) => tsmall_any v t W (TB W hw)
  have SL := fun (W : World) (hw : Below w.heap.size w W) => smallLeaf_any l _ W (LB W hw)
  have TR := fun (W : World) (hw : Below w.heap.size w W) => tright_med v t W (TB W hw) hm hok
  rw [hs] at SM
  rw [hsl] at SL
  rw [hr] at TR
  obtain ⟨a, n, c0, rfl⟩ : ∃ a n c, v = .slice a n c := by obtain ⟨a, c, e, _⟩ := h.sl; exact ⟨_, _, _, e⟩
  obtain ⟨a1, c1, a2, c2, a3, c3, a4, c4, a5, c5, rfl, -⟩ := id hl
  obtain ⟨l1, hl1⟩ : ∃ x, x = l.box.length := ⟨_, rfl⟩
  obtain ⟨l2, hl2⟩ : ∃ x, x = l.sign.length := ⟨_, rfl⟩
  obtain ⟨l3, hl3⟩ : ∃ x, x = l.ident.length := ⟨_, rfl⟩
  obtain ⟨l4, hl4⟩ : ∃ x, x = l.par.length := ⟨_, rfl⟩
  obtain ⟨l5, hl5⟩ : ∃ x, x = l.sig.length := ⟨_, rfl⟩
  obtain ⟨s, hsr⟩ : ∃ s, s = l.source := ⟨_, rfl⟩
  simp only [← hl1, ← hl2, ← hl3, ← hl4, ← hl5, ← hsr] at SL ⊢
  have HAL := Lib.hid AL
  have HSM := Lib.hid SM
  have HSL := Lib.hid SL
  have HTR := Lib.hid TR
  clear TB LB AL SM SL TR hl1 hl2 hl3 hl4 hl5 hsr h hl hok hm hs hsl hr
  go_enter Try.func6, Try.ntmps6
  go_wp2_with fail
  have HBK0 := Lib.hid (Blk.new w 25 #[.slice a1 l1 c1, .slice a2 l2 c2, .slice a3 l3 c3, .int .u8 (s : Nat), .slice a4 l4 c4, .slice a5 l5 c5])
  have HB0 := Lib.hid ((Below.refl w.heap.size w).alloc (Nat.le_refl _) (.cells #[.slice a1 l1 c1, .slice a2 l2 c2, .slice a3 l3 c3, .int .u8 (s : Nat), .slice a4 l4 c4, .slice a5 l5 c5] 25))
  generalize hw0 : w.alloc (.cells #[.slice a1 l1 c1, .slice a2 l2 c2, .slice a3 l3 c3, .int .u8 (s : Nat), .slice a4 l4 c4, .slice a5 l5 c5] 25) = w0 at HBK0 HB0 ⊢
  clear hw0
  go_wp2_with fail
  refine (HAL.out w0 HB0.out).mono ?_
  rintro e w1 ⟨rfl, hb⟩
  have HB1 := Lib.hid (HB0.out.trans (hb.mono HB0.out.size))
  have HBK1 := Lib.hid (HBK0.out.below hb HBK0.out.lt)
  clear hb
  go_wp2_with fail
  refine (HSM.out w1 HB1.out).mono ?_
  rintro e w2 ⟨rfl, hb⟩
  have HB2 := Lib.hid (HB1.out.trans (hb.mono HB1.out.size))
  have HBK2 := Lib.hid (HBK1.out.below hb HBK1.out.lt)
  clear hb
  go_wp2_with (first | (refine wpList_load_at rfl 25 (.tmp 4) rfl w.heap.size rfl 25 #[.slice a1 l1 c1, .slice a2 l2 c2, .slice a3 l3 c3, .int .u8 (s : Nat), .slice a4 l4 c4, .slice a5 l5 c5] (0, 0) _ HBK2.out Try.underlying25 rfl (by kernel_rfl) ?_) | (refine wpList_wanted rfl ?_; refine wpList_load_at rfl 25 (.tmp 4) rfl w.heap.size rfl 25 #[.slice a1 l1 c1, .slice a2 l2 c2, .slice a3 l3 c3, .int .u8 (s : Nat), .slice a4 l4 c4, .slice a5 l5 c5] (0, 0) _ HBK2.out Try.underlying25 rfl (by kernel_rfl) ?_) | (refine wpList_wanted rfl ?_; refine wpList_load_at rfl 25 (.tmp 4) rfl w.heap.size rfl 25 #[.slice a1 l1 c1, .slice a2 l2 c2, .slice a3 l3 c3, .int .u8 (s : Nat), .slice a4 l4 c4, .slice a5 l5 c5] (0, 0) _ (HBK2.out.alloc _) Try.underlying25 rfl (by kernel_rfl) ?_))
  refine (HSL.out w2 HB2.out).mono ?_
  rintro e w3 ⟨rfl, hb⟩
  have HB3 := Lib.hid (HB2.out.trans (hb.mono HB2.out.size))
  have HBK3 := Lib.hid (HBK2.out.below hb HBK2.out.lt)
  clear hb
  go_wp2_with fail
  refine (HTR.out w3 HB3.out).mono ?_
  rintro e w4 ⟨rfl, hb⟩
  have HB4 := Lib.hid (HB3.out.trans (hb.mono HB3.out.size))
  have HBK4 := Lib.hid (HBK3.out.below hb HBK3.out.lt)
  clear hb
  go_wp2_with fail
  go_ret
  exact ⟨rfl, HB4.out⟩
set_option maxRecDepth 100000 in
set_option maxHeartbeats 8000000 in
theorem tkeep_form {w : World} (v : Value) (c : Array Value) (t : List NodeD) (l : LeafD) (p : Int) (h : TreeR w v t) (hl : LeafC w l c) (hok : TreeOk t) (hs : smallT t = true) (hsl : smallB ⟨0, l, noParD⟩ = true) (hr : rightT t = true) (hf : leafOkB l = false) :
    Calls Try.prog 6 #[v, .agg c, .int .i64 p] w fun e w' => e = .returned (.bool true) ∧ Below w.heap.size w w' := by
  have TB := fun (W : World) (hw : Below w.heap.size w W) => h.below hw (Nat.le_refl _)
  have LB := fun (W : World) (hw : Below w.heap.size w W) => hl.below hw (Nat.le_refl _)
  have hm := smallT_med hs
  have AL := fun (W : World) (hw : Below w.heap.size w W) => alive17 W
  have SM := fun (W : World) (hw : Below w.heap.size w W) => tsmall_any v t W (TB W hw)
  have SL := fun (W : World) (hw : Below w.heap.size w W) => smallLeaf_any l _ W (LB W hw)
  have TR := fun (W : World) (hw : Below w.heap.size w W) => tright_med v t W (TB W hw) hm hok
  have RRL := fun (W : World) (hw : Below w.heap.size w W) => rrightLeafT_any l _ W (LB W hw)
  rw [hs] at SM
  rw [hsl] at SL
  rw [hr] at TR
  rw [hf] at RRL
  obtain ⟨a, n, c0, rfl⟩ : ∃ a n c, v = .slice a n c := by obtain ⟨a, c, e, _⟩ := h.sl; exact ⟨_, _, _, e⟩
  obtain ⟨a1, c1, a2, c2, a3, c3, a4, c4, a5, c5, rfl, -⟩ := id hl
  obtain ⟨l1, hl1⟩ : ∃ x, x = l.box.length := ⟨_, rfl⟩
  obtain ⟨l2, hl2⟩ : ∃ x, x = l.sign.length := ⟨_, rfl⟩
  obtain ⟨l3, hl3⟩ : ∃ x, x = l.ident.length := ⟨_, rfl⟩
  obtain ⟨l4, hl4⟩ : ∃ x, x = l.par.length := ⟨_, rfl⟩
  obtain ⟨l5, hl5⟩ : ∃ x, x = l.sig.length := ⟨_, rfl⟩
  obtain ⟨s, hsr⟩ : ∃ s, s = l.source := ⟨_, rfl⟩
  simp only [← hl1, ← hl2, ← hl3, ← hl4, ← hl5, ← hsr] at SL RRL ⊢
  have HAL := Lib.hid AL
  have HSM := Lib.hid SM
  have HSL := Lib.hid SL
  have HTR := Lib.hid TR
  have HRRL := Lib.hid RRL
  clear TB LB AL SM SL TR RRL hl1 hl2 hl3 hl4 hl5 hsr h hl hok hm hs hsl hr hf
  go_enter Try.func6, Try.ntmps6
  go_wp2_with fail
  have HBK0 := Lib.hid (Blk.new w 25 #[.slice a1 l1 c1, .slice a2 l2 c2, .slice a3 l3 c3, .int .u8 (s : Nat), .slice a4 l4 c4, .slice a5 l5 c5])
  have HB0 := Lib.hid ((Below.refl w.heap.size w).alloc (Nat.le_refl _) (.cells #[.slice a1 l1 c1, .slice a2 l2 c2, .slice a3 l3 c3, .int .u8 (s : Nat), .slice a4 l4 c4, .slice a5 l5 c5] 25))
  generalize hw0 : w.alloc (.cells #[.slice a1 l1 c1, .slice a2 l2 c2, .slice a3 l3 c3, .int .u8 (s : Nat), .slice a4 l4 c4, .slice a5 l5 c5] 25) = w0 at HBK0 HB0 ⊢
  clear hw0
  go_wp2_with fail
  refine (HAL.out w0 HB0.out).mono ?_
  rintro e w1 ⟨rfl, hb⟩
  have HB1 := Lib.hid (HB0.out.trans (hb.mono HB0.out.size))
  have HBK1 := Lib.hid (HBK0.out.below hb HBK0.out.lt)
  clear hb
  go_wp2_with fail
  refine (HSM.out w1 HB1.out).mono ?_
  rintro e w2 ⟨rfl, hb⟩
  have HB2 := Lib.hid (HB1.out.trans (hb.mono HB1.out.size))
  have HBK2 := Lib.hid (HBK1.out.below hb HBK1.out.lt)
  clear hb
  go_wp2_with (first | (refine wpList_load_at rfl 25 (.tmp 4) rfl w.heap.size rfl 25 #[.slice a1 l1 c1, .slice a2 l2 c2, .slice a3 l3 c3, .int .u8 (s : Nat), .slice a4 l4 c4, .slice a5 l5 c5] (0, 0) _ HBK2.out Try.underlying25 rfl (by kernel_rfl) ?_) | (refine wpList_wanted rfl ?_; refine wpList_load_at rfl 25 (.tmp 4) rfl w.heap.size rfl 25 #[.slice a1 l1 c1, .slice a2 l2 c2, .slice a3 l3 c3, .int .u8 (s : Nat), .slice a4 l4 c4, .slice a5 l5 c5] (0, 0) _ HBK2.out Try.underlying25 rfl (by kernel_rfl) ?_) | (refine wpList_wanted rfl ?_; refine wpList_load_at rfl 25 (.tmp 4) rfl w.heap.size rfl 25 #[.slice a1 l1 c1, .slice a2 l2 c2, .slice a3 l3 c3, .int .u8 (s : Nat), .slice a4 l4 c4, .slice a5 l5 c5] (0, 0) _ (HBK2.out.alloc _) Try.underlying25 rfl (by kernel_rfl) ?_))
  refine (HSL.out w2 HB2.out).mono ?_
  rintro e w3 ⟨rfl, hb⟩
  have HB3 := Lib.hid (HB2.out.trans (hb.mono HB2.out.size))
  have HBK3 := Lib.hid (HBK2.out.below hb HBK2.out.lt)
  clear hb
  go_wp2_with fail
  refine (HTR.out w3 HB3.out).mono ?_
  rintro e w4 ⟨rfl, hb⟩
  have HB4 := Lib.hid (HB3.out.trans (hb.mono HB3.out.size))
  have HBK4 := Lib.hid (HBK3.out.below hb HBK3.out.lt)
  clear hb
  go_wp2_with (first | (refine wpList_load_at rfl 25 (.tmp 4) rfl w.heap.size rfl 25 #[.slice a1 l1 c1, .slice a2 l2 c2, .slice a3 l3 c3, .int .u8 (s : Nat), .slice a4 l4 c4, .slice a5 l5 c5] (0, 0) _ HBK4.out Try.underlying25 rfl (by kernel_rfl) ?_) | (refine wpList_wanted rfl ?_; refine wpList_load_at rfl 25 (.tmp 4) rfl w.heap.size rfl 25 #[.slice a1 l1 c1, .slice a2 l2 c2, .slice a3 l3 c3, .int .u8 (s : Nat), .slice a4 l4 c4, .slice a5 l5 c5] (0, 0) _ HBK4.out Try.underlying25 rfl (by kernel_rfl) ?_) | (refine wpList_wanted rfl ?_; refine wpList_load_at rfl 25 (.tmp 4) rfl w.heap.size rfl 25 #[.slice a1 l1 c1, .slice a2 l2 c2, .slice a3 l3 c3, .int .u8 (s : Nat), .slice a4 l4 c4, .slice a5 l5 c5] (0, 0) _ (HBK4.out.alloc _) Try.underlying25 rfl (by kernel_rfl) ?_))
  refine (HRRL.out w4 HB4.out).mono ?_
  rintro e w5 ⟨rfl, hb⟩
  have HB5 := Lib.hid (HB4.out.trans (hb.mono HB4.out.size))
  have HBK5 := Lib.hid (HBK4.out.below hb HBK4.out.lt)
  clear hb
  go_wp2_with fail
  go_ret
  exact ⟨rfl, HB5.out⟩
theorem treeKeeps_walk {w : World} (v : Value) (t : List NodeD) (u : Value) (l : LeafD) (p : Int) (hop : TreeR w v t ∧ TreeOk t) (hlc : ∃ c, u = .agg c ∧ LeafC w l c ∧ LeafOk l) (hpb : -9223372036854775808 ≤ p ∧ p ≤ 9223372036854775807) :
    Calls Try.prog 6 #[v, u, .int .i64 p] w fun e w' => e = .returned (.bool true) ∧ Below w.heap.size w w' := by
  obtain ⟨h, hok⟩ := hop
  obtain ⟨c, rfl, hl, hlk⟩ := hlc
  cases hs : smallT t with
  | false => exact tkeep_big v c t l p h hl hok hs
  | true =>
    cases hsl : smallB ⟨0, l, noParD⟩ with
    | false => exact tkeep_bigL v c t l p h hl hok hs hsl
    | true =>
      cases hr : rightT t with
      | false => exact tkeep_no v c t l p h hl hok hs hsl hr
      | true =>
        cases hf : leafOkB l with
        | false => exact tkeep_form v c t l p h hl hok hs hsl hr hf
        | true =>
          have hr' := hr
          rw [rightT, Bool.and_eq_true] at hr'
          obtain ⟨d, hd, hN, hlen⟩ := leavesN_pos (of_decide_eq_true hr'.1)
          have hl40 := smallT_len hs
          have hd5 : d ≤ 9 := by
            rcases Nat.lt_or_ge 9 d with h | h
            · have := Nat.pow_le_pow_right (show 0 < 2 by omega) (show 9 ≤ d by omega)
              omega
            · exact h
          by_cases hi : p ∈ rmemL t (2 ^ d)
          · obtain ⟨m, rfl⟩ : ∃ m : Nat, p = (m : Int) := by
              rcases Int.lt_or_le p 0 with hh | hh
              · exact absurd hi (mem_neg t _ hh)
              · exact ⟨p.toNat, by omega⟩
            obtain ⟨hm1, hm2⟩ := (mem_iff t _ m).1 hi
            exact tkeep_mem v c t l m h hl hok hlk hs hsl hr hf d hd5 hlen hm1 hm2
          · exact tkeep_not v c t l p h hl hok hlk hs hsl hr hf d hd5 hlen hi
end Go.Proofs.Ytlcmodbjbdfloaa
