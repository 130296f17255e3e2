/- Walk: tree.Of of the bytes of a right tree gives that tree. -/
import Derived.Test.YtngealmhgkoaiaaGreatZTreeBytes31
import Derived.Test.YtngealmhgkoaiaaGreatZTreeBytes33
namespace Go.Proofs.YtngealmhgkoaiaaGreat
open Go.RowKit WireM WalkM
set_option linter.unusedVariables false
theorem right_blank {d : NodeD} (h : rightB d = true) (h0 : d.kind = 0) : d = noNodeD := by
  obtain ⟨k, l, p⟩ := d
  simp only at h0
  subst h0
  unfold rightB at h
  simp only [if_true] at h
  rw [Bool.and_eq_true] at h
  have h1 := of_decide_eq_true h.1
  have h2 := of_decide_eq_true h.2
  obtain ⟨a, b, c, s, e, f⟩ := l
  obtain ⟨x, y, z⟩ := p
  simp only at h1 h2
  have e1 : a = [] := List.eq_nil_of_length_eq_zero (by omega)
  have e2 : b = [] := List.eq_nil_of_length_eq_zero (by omega)
  have e3 : c = [] := List.eq_nil_of_length_eq_zero (by omega)
  have e4 : e = [] := List.eq_nil_of_length_eq_zero (by omega)
  have e5 : f = [] := List.eq_nil_of_length_eq_zero (by omega)
  have e6 : x = [] := List.eq_nil_of_length_eq_zero (by omega)
  have e7 : y = [] := List.eq_nil_of_length_eq_zero (by omega)
  have e8 : z = [] := List.eq_nil_of_length_eq_zero (by omega)
  have e9 : s = 0 := by omega
  subst e1 e2 e3 e4 e5 e6 e7 e8 e9
  rfl
theorem nd_take {t : List NodeD} {e i : Nat} (h : i < e) : nd (t.take e) i = nd t i := by
  simp [nd, List.getD_eq_getElem?_getD, h]
theorem listT_end {t : List NodeD} (hr : rightT t = true) : listT t.length (nd (t.take (endU t t.length))) = t := by
  have e : listT t.length (nd (t.take (endU t t.length))) = listT t.length (nd t) := by
    unfold listT
    apply List.map_congr_left
    intro i hi
    rw [List.mem_range] at hi
    rcases Nat.lt_or_ge i (endU t t.length) with h | h
    · exact nd_take h
    · rw [right_blank (right_nd hr hi) (endU_blank h hi)]
      have : (t.take (endU t t.length)).length ≤ i := by rw [List.length_take]; omega
      rw [nd, List.getD_eq_getElem?_getD, List.getElem?_eq_none this]; rfl
  rw [e, listT_self]
/-- how long a right tree is, and how far its nodes go -/
theorem right_span {t : List NodeD} (hr : rightT t = true) : ∃ d, d ≤ 16 ∧ t.length + 1 = 2 * 2 ^ d ∧ (0 < d → 2 ^ d < endU t t.length) := by
  have hr0 := hr
  rw [rightT, Bool.and_eq_true, Bool.and_eq_true, Bool.and_eq_true] at hr
  have h0 : leavesN t.length ≠ 0 := of_decide_eq_true hr.1
  obtain ⟨d, hd, e1, e2⟩ := leavesN_pos h0
  refine ⟨d, hd, e2, fun hp => ?_⟩
  have hs := hr.2.2.1
  unfold someB at hs
  have h2 : 2 ≤ 2 ^ d := by
    have : 2 ^ 1 ≤ 2 ^ d := Nat.pow_le_pow_right (by omega) hp
    simpa using this
  rw [if_neg (by omega)] at hs
  obtain ⟨i, hi, hk⟩ := someK_ex hs
  rw [List.length_drop] at hi
  have e : nd (t.drop (leavesN t.length)) i = nd t (leavesN t.length + i) := by
    simp [nd, List.getD_eq_getElem?_getD, List.getElem?_drop]
  rw [e] at hk
  have := endU_pos (show leavesN t.length + i < t.length by omega) (show (nd t (leavesN t.length + i)).kind ≠ 0 by omega)
  omega
set_option maxRecDepth 100000 in
set_option maxHeartbeats 16000000 in
theorem tof_on (v : Value) (t : List NodeD) (w : World) (h : Rd w v (bvs (bytesT t))) (hs : medT t = true) (hok : TreeOk t) (hr : rightT t = true) :
    Calls Tryz.prog 19 #[v] w fun e w' => ∃ v', e = .returned (.tuple #[v', .int .u8 0]) ∧ TreeO w' w.heap.size v' t ∧ Below w.heap.size w w' := by
  have hlen := medT_len hs
  have hpos := right_end hr
  have hle := endU_le t t.length
  obtain ⟨d, hd, hd2, hd3⟩ := right_span hr
  obtain ⟨g, hg⟩ : ∃ g, g = w.heap.size := ⟨_, rfl⟩
  have NR := newReader_any v (bytesT t) w h
  rw [← hg] at NR
  have cl := catN_take_len hs (endU t t.length)
  have BL : (bytesT t).length ≤ 100000 := by have := vecB_len (catN (t.take (endU t t.length))) (by omega); unfold bytesT; omega
  have mem1 : ∀ d ∈ t.take (endU t t.length), d ∈ t := fun d hd => List.mem_of_mem_take hd
  have hlt := catN_lt (t.take (endU t t.length)) (fun d hd => med_mem hs d (mem1 d hd)) (fun d hd => hok d (mem1 d hd))
  have VC := fun (W : World) (hw : RS W g (bytesT t) 0) => (show Calls Tryz.prog 76 #[.pointer (some ⟨g, 0, none⟩)] W (TakeP g W (catN (t.take (endU t t.length)), [], 0)) from by
    have hv := vec_any g (bytesT t) 0 W hw (by omega) (vecB_lt (by omega) hlt)
    have e : bytesT t = vecB (catN (t.take (endU t t.length))) ++ [] := by simp [bytesT]
    rwa [e, vecF_put (by omega)] at hv)
  have EN := fun (W : World) (hw : RS W g [] 0) => end_any g [] 0 W hw
  have e0 : endE [] 0 = 0 := rfl
  rw [e0] at EN
  have rmem : ∀ d ∈ t, rightB d = true := by
    intro d hd
    obtain ⟨i, hi, rfl⟩ := List.getElem_of_mem hd
    have := right_nd hr hi
    rwa [nd, List.getD_eq_getElem?_getD, List.getElem?_eq_getElem hi] at this
  have RD := fun (W : World) (v : Value) (hv : Rd W v (bvs (catN (t.take (endU t t.length))))) => tread_on (t.take (endU t t.length)) v W hv (fun d hd => rmem d (mem1 d hd)) (fun d hd => med_mem hs d (mem1 d hd)) (fun d hd => hok d (mem1 d hd)) (by rw [List.length_take]; omega)
  have tl : (t.take (endU t t.length)).length = endU t t.length := by rw [List.length_take]; omega
  have LK := fun (W : World) (v : Value) (h : TreeO W g v (t.take (endU t t.length))) => (show ∃ b cap, v = .slice (some ⟨b, 0, none⟩) (endU t t.length) cap ∧ W.cell? ⟨b, (endU t t.length - 1) * 10, none⟩ = some (.int .u8 ((nd t (endU t t.length - 1)).kind : Nat)) from by
    obtain ⟨b, cap, e, -⟩ := h.sl (by omega)
    rw [tl] at e
    subst e
    obtain ⟨b', off', lb', e1', e, -, ck, -⟩ := h.r.at (i := endU t t.length - 1) (by omega)
    simp only [Option.some.injEq, Addr.mk.injEq, and_true] at e
    obtain ⟨rfl, rfl⟩ := e
    rw [nd_take (by omega), Nat.zero_add] at ck
    exact ⟨b, cap, rfl, ck⟩)
  have KN : (nd t (endU t t.length - 1)).kind ≠ 0 := endU_last (k := t.length) (by omega)
  have KB := (hok.nd (endU t t.length - 1)).kind
  have ZR := fun (W : World) (v : Value) (h : TreeO W g v (t.take (endU t t.length))) (hB : g ≤ W.heap.size) => (show ∃ v' w', (Builtin.append_ #[22, 3] 22 #[v, .int .i64 ((t.length - endU t t.length : Nat) : Int)]).run Tryz.prog W = .ok v' w' ∧ TreeO w' g v' t ∧ W.grownBy w' v.ownBlock ∧ ∃ gg, v.ownBlock = some gg ∧ g ≤ gg from by
    obtain ⟨v', w', h1, h2, h3⟩ := run_zeros h (by omega) (by omega) (t.length - endU t t.length) (by omega) hB
    have h4 := h2.o
    rw [tl, show endU t t.length + (t.length - endU t t.length) = t.length by omega, listT_end hr] at h4
    obtain ⟨b, cap, e, hb, -⟩ := h.sl (by omega)
    exact ⟨v', w', h1, h4, h3, b, by rw [e]; rfl, hb⟩)
  have TR := fun (W : World) (v : Value) (h : TreeR W v t) => tright_med v t W h hs hok
  rw [hr] at TR
  obtain ⟨a, c, rfl, -⟩ := id h
  rw [bvs_len] at NR ⊢
  obtain ⟨C, hC⟩ : ∃ C, C = bytesT t := ⟨_, rfl⟩
  rw [← hC] at NR BL VC ⊢
  obtain ⟨K, hK⟩ : ∃ K, K = catN (t.take (endU t t.length)) := ⟨_, rfl⟩
  rw [← hK] at VC RD
  obtain ⟨T, hT⟩ : ∃ T, T = t.take (endU t t.length) := ⟨_, rfl⟩
  rw [← hT] at RD LK ZR
  obtain ⟨kd, hkd⟩ : ∃ kd, kd = (nd t (endU t t.length - 1)).kind := ⟨_, rfl⟩
  rw [← hkd] at LK KN KB
  obtain ⟨E, hE⟩ : ∃ E, E = endU t t.length := ⟨_, rfl⟩
  rw [← hE] at LK ZR hpos hle hd3
  obtain ⟨n, hn⟩ : ∃ n, n = t.length := ⟨_, rfl⟩
  rw [← hn] at ZR hlen hle hd2
  obtain ⟨l0, hl0⟩ : ∃ l, l = C.length := ⟨_, rfl⟩
  rw [← hl0] at NR BL ⊢
  obtain ⟨N, hN⟩ : ∃ N, N = 2 ^ d := ⟨_, rfl⟩
  rw [← hN] at hd2 hd3
  obtain ⟨j, hj⟩ : ∃ j, E = j + 1 := ⟨E - 1, by omega⟩
  rw [show E - 1 = j by omega] at LK
  have hkI : ((n - E : Nat) : Int) = wrap64 (2 * (N : Int) - 1 - (E : Int)) := (wrapT (by omega) (by omega) (by omega)).symm
  rw [hkI] at ZR
  have STEP := fun (j : Nat) (hj : j < d) => (show 2 * 2 ^ j ≤ N ∧ 2 ^ (j + 1) = 2 * 2 ^ j from by
    have e1 : 2 ^ (j + 1) = 2 * 2 ^ j := by rw [Nat.pow_succ]; omega
    have : 2 ^ (j + 1) ≤ 2 ^ d := Nat.pow_le_pow_right (by omega) hj
    exact ⟨by omega, e1⟩)
  have HNR := Lib.hid NR
  have HVC := Lib.hid VC
  have HEN := Lib.hid EN
  have HRD := Lib.hid RD
  have HLK := Lib.hid LK
  have HZR := Lib.hid ZR
  have HTR := Lib.hid TR
  have HG := Lib.hid hg
  have HST := Lib.hid STEP
  have HNE := Lib.hid hN
  have hBL := Lib.hid BL
  have hgl : (1048576 : Int) < (l0 : Int) → False := by omega
  have hgd : decide ((1048576 : Int) < (l0 : Int)) = false := decide_eq_false (by omega)
  have hj1 : wrap64 ((E : Int) - 1) = (j : Int) := wrapT (by omega) (by omega) (by omega)
  have hjE : (j : Int) < (E : Int) := by omega
  have hE0 : ((E : Int) == 0) = false := by rw [beq_eq_false_iff_ne]; omega
  have hE1 : ¬ ((E : Int) = 0) := by omega
  have hE2 : ¬ (E = 0) := by omega
  have hE3 : decide ((131071 : Int) < (E : Int)) = false := decide_eq_false (by omega)
  have hk0 : ((kd : Int) == 0) = false := by rw [beq_eq_false_iff_ne]; omega
  have hk1 : ¬ ((kd : Int) = 0) := by omega
  have HNN := Lib.hid (show n + 1 = 2 * N from hd2)
  have HEE := Lib.hid (show E ≤ n ∧ n ≤ 63 ∧ (0 < d → N < E) ∧ 0 < E from ⟨hle, hlen, hd3, hpos⟩)
  clear hkI hj KN hpos hle hd3 hd2 hlen NR VC EN RD LK ZR TR hg STEP hN BL hs hok hr hkd hE hn hl0 hC hK hT mem1 rmem tl cl hlt e0 h
  go_enter Tryz.func19, Tryz.ntmps19
  go_wp2_with fail
  refine HNR.out.mono ?_
  rintro e w0 ⟨rfl, hrs, hb⟩
  have HR0 := Lib.hid hrs
  have HB0 := Lib.hid (show Below w.heap.size w w0 from by rw [← HG.out]; exact hb)
  clear hrs hb
  go_wp2_with fail
  refine (HVC.out _ HR0.out).mono ?_
  rintro e w1 ⟨v5, rfl, hown, hrs, honly⟩
  obtain ⟨a5, c5, rfl⟩ := own_len hown
  have HR1 := Lib.hid hrs
  have HO1 := Lib.hid hown
  have HB1 := Lib.hid (HB0.out.trans (honly.below (C := w.heap.size) (by have := HG.out; omega) (HB0.out.size)))
  clear hrs hown honly
  go_wp2_with fail
  refine (HEN.out _ HR1.out).mono ?_
  rintro e w2 ⟨rfl, rfl⟩
  go_wp2_with fail
  refine (HRD.out _ _ HO1.out.rd).mono ?_
  rintro e w3 ⟨v7, rfl, hto, hb3⟩
  have hto' : TreeO w3 g v7 T := hto.mono (by have := HB1.out.size; have := HG.out; omega)
  have HB3 := Lib.hid (HB1.out.trans (hb3.mono HB1.out.size))
  obtain ⟨b, cap, rfl, ck⟩ := HLK.out _ _ hto'
  obtain ⟨v9, w9, hrun, ht9, hg9, gg, hgg, hgg2⟩ := HZR.out _ _ hto' (by have := HB3.out.size; have := HG.out; omega)
  have HB9 := Lib.hid (HB3.out.grown hg9 HB3.out.size (fun k hk => by rw [hgg] at hk; cases hk; have := HG.out; omega))
  have HT9 := Lib.hid ht9
  have HRUN := Lib.hid hrun
  clear hto hto' hb3 ht9 hg9 hgg hgg2 hrun
  go_wp2_with fail
  go_loopg [9] d (fun q iv wr => ∃ r P : Nat, r + q = d ∧ P = 2 ^ r ∧ iv = .int .i64 (P : Nat) ∧ wr = w3)
  case atStart => exact ⟨0, 1, by omega, rfl, rfl, rfl⟩
  case round =>
    obtain ⟨r, P, hr, hP, rfl, rfl⟩ := hrel
    have HR := Lib.hid hr
    have HP := Lib.hid hP
    by_cases hlt : r < d
    · obtain ⟨s1, s2⟩ := HST.out r hlt
      rw [← HP.out] at s1 s2
      have hEE := HEE.out
      have hNN := HNN.out
      have hpp : 0 < P := by rw [HP.out]; exact Nat.two_pow_pos r
      have hw1 : wrap64 (2 * (P : Int)) = 2 * (P : Int) := wrapT rfl (by omega) (by omega)
      have hw2 : wrap64 (2 * (P : Int) - 1) = 2 * (P : Int) - 1 := wrapT rfl (by omega) (by omega)
      have hw3 : wrap64 ((P : Int) * 2) = 2 * (P : Int) := wrapT (by omega) (by omega) (by omega)
      have hT : 2 * (P : Int) - 1 < (E : Int) := by omega
      have hTd : decide (2 * (P : Int) - 1 < (E : Int)) = true := decide_eq_true hT
      have HS2 := Lib.hid s2
      clear s1 s2 hEE hNN hpp hr hP
      go_wp2_with fail
      go_roundg (gk - 1)
      case measure => have := HR.out; omega
      case rel => exact ⟨r + 1, 2 * P, by have := HR.out; omega, HS2.out.symm, by simp [hw3], rfl⟩
    · obtain rfl : r = d := by omega
      have hPN : P = N := by rw [HP.out, HNE.out]
      subst hPN
      have hEE := HEE.out
      have hNN := HNN.out
      have hw1 : wrap64 (2 * (P : Int)) = 2 * (P : Int) := wrapT rfl (by omega) (by omega)
      have hw2 : wrap64 (2 * (P : Int) - 1) = 2 * (P : Int) - 1 := wrapT rfl (by omega) (by omega)
      have hT : ¬ (2 * (P : Int) - 1 < (E : Int)) := by omega
      have hTd : decide (2 * (P : Int) - 1 < (E : Int)) = false := decide_eq_false hT
      clear hEE hNN hr hP hlt
      go_wp2_with (at_builtin; refine wpList_app_run rfl (.tmp 57) (.tmp 63) 22 3 rfl _ _ rfl rfl _ _ HRUN.out ?_)
      refine (HTR.out _ _ HT9.out.r).mono ?_
      rintro e w5 ⟨rfl, hb5⟩
      have HT5 := Lib.hid (HT9.out.below hb5 (Nat.le_refl _))
      have HB5 := Lib.hid (HB9.out.trans (hb5.mono HB9.out.size))
      clear hb5
      go_wp2_with fail
      go_ret2
      exact ⟨_, rfl, by rw [← HG.out]; exact HT5.out, HB5.out⟩
end Go.Proofs.YtngealmhgkoaiaaGreat
