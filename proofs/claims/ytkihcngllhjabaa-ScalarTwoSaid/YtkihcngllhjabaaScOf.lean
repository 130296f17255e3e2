/- Walks: scalar's word, Of. -/
import Derived.Test.YtkihcngllhjabaaScRed
import Derived.Test.YtkihcngllhjabaaSame
namespace Go.Proofs.Ytkihcngllhjabaa
open Go.RowKit ScM
set_option linter.unusedVariables false
/-- bytes, the lowest first -/
def leV : List Nat → Nat
  | [] => 0
  | d :: L => d + 256 * leV L
theorem leV_lt {L : List Nat} (h : ∀ n ∈ L, n < 256) : leV L < 256 ^ L.length := by
  induction L with
  | nil => simp [leV]
  | cons d L ih =>
    have h1 := h d (List.mem_cons_self ..)
    have h2 := ih fun x hx => h x (List.mem_cons_of_mem _ hx)
    rw [leV, List.length_cons, Nat.pow_succ]; omega
theorem leV_app (A B : List Nat) : leV (A ++ B) = leV A + 256 ^ A.length * leV B := by
  induction A with
  | nil => simp [leV]
  | cons d A ih => rw [List.cons_append, leV, leV, ih, List.length_cons, Nat.pow_succ, Nat.mul_add, Nat.mul_comm (256 ^ A.length) 256, Nat.mul_assoc]; omega
/-- words of bytes -/
def wlist (L : List Nat) : List Nat := if L = [] then [] else leV (L.take 8) :: wlist (L.drop 8)
termination_by L.length
decreasing_by
  rw [List.length_drop]
  have : 0 < L.length := List.length_pos_iff.2 (by assumption)
  omega
theorem wlist_nil : wlist [] = [] := by rw [wlist]; simp
theorem wlist_cons {L : List Nat} (h : L ≠ []) : wlist L = leV (L.take 8) :: wlist (L.drop 8) := by rw [wlist, if_neg h]
theorem wlist_val (L : List Nat) : wv (wlist L) = leV L := by
  generalize hn : L.length = n
  induction n using Nat.strongRecOn generalizing L with
  | _ n ih =>
    by_cases h : L = []
    · subst h; rw [wlist_nil]; rfl
    · have hp : 0 < L.length := List.length_pos_iff.2 h
      rw [wlist_cons h, wv, ih _ (by rw [List.length_drop]; omega) (L.drop 8) rfl]
      conv => rhs; rw [← List.take_append_drop 8 L, leV_app]
      by_cases h8 : 8 ≤ L.length
      · rw [List.length_take, Nat.min_eq_left h8]
      · rw [List.drop_eq_nil_of_le (by omega)]
        simp [leV]
theorem wlist_len (L : List Nat) : 8 * (wlist L).length ≤ L.length + 7 := by
  generalize hn : L.length = n
  induction n using Nat.strongRecOn generalizing L with
  | _ n ih =>
    by_cases h : L = []
    · subst h; rw [wlist_nil]; simp
    · have hp : 0 < L.length := List.length_pos_iff.2 h
      have := ih _ (by rw [List.length_drop]; omega) (L.drop 8) rfl
      rw [wlist_cons h, List.length_cons]
      rw [List.length_drop] at this
      omega
theorem wlist_wds {L : List Nat} (hL : ∀ n ∈ L, n < 256) : Wds (wlist L) := by
  generalize hn : L.length = n
  induction n using Nat.strongRecOn generalizing L with
  | _ n ih =>
    by_cases h : L = []
    · subst h; rw [wlist_nil]; intro d h; cases h
    · have hp : 0 < L.length := List.length_pos_iff.2 h
      rw [wlist_cons h]
      intro d hd
      rcases List.mem_cons.1 hd with rfl | hd
      · have h1 := leV_lt (L := L.take 8) fun n hn => hL n (List.mem_of_mem_take hn)
        have h2 : 256 ^ (L.take 8).length ≤ 256 ^ 8 := Nat.pow_le_pow_right (by omega) (by rw [List.length_take]; omega)
        exact Nat.lt_of_lt_of_le h1 h2
      · exact ih _ (by rw [List.length_drop]; omega) (L := L.drop 8) (fun n hn => hL n (List.mem_of_mem_drop hn)) rfl d hd
theorem or_byte (z b : Nat) (hz : z % 256 = 0) (hb : b < 256) : z ||| b = z + b := by
  have h := Nat.shiftLeft_add_eq_or_of_lt (a := z / 256) (b := b) (i := 8) (by omega)
  rw [Nat.shiftLeft_eq, show (2 : Nat) ^ 8 = 256 from rfl, Nat.div_mul_cancel (Nat.dvd_of_mod_eq_zero hz)] at h
  exact h.symm
theorem or_u64b (z b : Nat) (hz : z < 18446744073709551616) (hz2 : z % 256 = 0) (hb : b < 256) : bits .or .u64 (z : Int) (b : Int) = ((z + b : Nat) : Int) := by
  show IntKind.u64.wrap ((BitVec.ofInt 64 (z : Int) ||| BitVec.ofInt 64 (b : Int)).toNat : Int) = _
  rw [BitVec.toNat_or, BitVec.ofInt_natCast, BitVec.ofInt_natCast, BitVec.toNat_ofNat, BitVec.toNat_ofNat, Nat.mod_eq_of_lt hz, Nat.mod_eq_of_lt (Nat.lt_of_lt_of_le hb (by decide)), or_byte z b hz2 hb, IntKind.wrap_u64]
  omega
theorem drop_step {M : List Nat} {j : Nat} (hj : j < M.length) (h8 : j < 8) : leV ((M.take 8).drop j) = M.getD j 0 + 256 * leV ((M.take 8).drop (j + 1)) := by
  have hl : j < (M.take 8).length := by rw [List.length_take]; omega
  rw [List.drop_eq_getElem_cons hl, leV]
  congr 1
  simp [List.getD_eq_getElem?_getD, List.getElem?_eq_getElem hj]
theorem drop_out {M : List Nat} {j : Nat} (hj : M.length ≤ j) : leV ((M.take 8).drop j) = 0 := by
  rw [List.drop_eq_nil_of_le (by rw [List.length_take]; omega)]; rfl
set_option maxRecDepth 100000 in
set_option maxHeartbeats 2000000 in
theorem sword_any (v : Value) (K : List Nat) (at' : Nat) (w : World) (h : Rd w v (bvs K)) (hK : ∀ n ∈ K, n < 256) (hat : at' < 1099511627776) :
    Calls Try.prog 58 #[v, .int .i64 (at' : Nat)] w fun e w' => e = .returned (.int .u64 (leV ((K.drop at').take 8) : Nat)) ∧ w' = w := by
  obtain ⟨k, hk⟩ : ∃ k, k = K.length := ⟨_, rfl⟩
  have hv : ∃ a c, v = .slice a k c ∧ k ≤ maxLen := by obtain ⟨a, c, e, h1, h2, _⟩ := h; exact ⟨a, c, by rw [e, bvs_len, hk], by rw [bvs_len] at h1; omega⟩
  obtain ⟨a, cap, rfl, hkm⟩ := hv
  have hkm' : k ≤ 9223372036854775807 := by unfold maxLen at hkm; omega
  have C : ∀ i, at' + i < k → ∃ b off, a = some ⟨b, off, none⟩ ∧ w.cell? ⟨b, off + (at' + i), none⟩ = some (.int .u8 (((K.drop at').getD i 0 : Nat) : Int)) := by
    intro i hi
    obtain ⟨b, off, e1, e2, e3⟩ := h.get2 (bvs_getD (L := K) (i := at' + i) (by omega))
    refine ⟨b, off, e1, ?_⟩
    rw [e3]
    simp [List.getD_eq_getElem?_getD, List.getElem?_drop]
  have hM : ∀ n ∈ K.drop at', n < 256 := fun n hn => hK n (List.mem_of_mem_drop hn)
  obtain ⟨M, hMe⟩ : ∃ M, M = K.drop at' := ⟨_, rfl⟩
  have hml : M.length = k - at' := by rw [hMe, List.length_drop, hk]
  rw [← hMe] at C hM ⊢
  have HC := Lib.hid C
  have HM := Lib.hid hM
  have HL := Lib.hid hml
  clear C hM hml h hK hk hMe hkm
  go_enter Try.func58, Try.ntmps58
  go_wp2_with fail
  go_loopg [5, 6] 8 (fun q nv iv wr => ∃ n : Nat, q ≤ 8 ∧ nv = .int .u64 (n : Nat) ∧ iv = .int .i64 ((q : Int) - 1) ∧ Hid (n = leV ((M.take 8).drop q)) ∧ w = wr)
  case atStart => exact ⟨0, by omega, rfl, rfl, by show _ = _; rw [List.drop_eq_nil_of_le (by rw [List.length_take]; omega)]; rfl, rfl⟩
  case round =>
    obtain ⟨n, hq, rfl, rfl, HN, rfl⟩ := hrel
    by_cases h0 : gk = 0
    · subst h0
      go_wp2_with fail
      go_ret
      have e := HN.out
      rw [List.drop_zero] at e
      exact ⟨by rw [← e]; rfl, rfl⟩
    · obtain ⟨j, rfl⟩ : ∃ j, gk = j + 1 := ⟨gk - 1, by omega⟩
      have ej : ((j + 1 : Nat) : Int) - 1 = (j : Int) := by omega
      rw [ej]
      have hn : n < 72057594037927936 := by
        have h1 := leV_lt (L := (M.take 8).drop (j + 1)) fun n hn => HM.out n (List.mem_of_mem_take (List.mem_of_mem_drop hn))
        have h2 : 256 ^ ((M.take 8).drop (j + 1)).length ≤ 256 ^ 7 := Nat.pow_le_pow_right (by omega) (by rw [List.length_drop, List.length_take]; omega)
        rw [← HN.out] at h1
        omega
      clear ej h0
      by_cases hin : at' + j < k
      · obtain ⟨b, off, rfl, hc⟩ := HC.out j hin
        have hd := drop_step (M := M) (j := j) (by have := HL.out; omega) (by omega)
        have hx := getD_lt HM.out (by omega) j
        obtain ⟨x, hxe⟩ : ∃ x, x = M.getD j 0 := ⟨_, rfl⟩
        rw [← hxe] at hd hx hc
        rw [← HN.out] at hd
        have ho := or_u64b (n * 256) x (by omega) (by omega) hx
        have en : ((n * 256 : Nat) : Int) = (n : Int) * 256 := by omega
        rw [en] at ho
        have HD := Lib.hid hd
        clear hd hxe en
        go_wp2_with fail
        go_roundg j
        case measure => omega
        case rel => exact ⟨n * 256 + x, by omega, by rfl, rfl, by show _ = _; rw [HD.out]; omega, rfl⟩
      · have hz : n = 0 := by rw [HN.out]; exact drop_out (by have := HL.out; omega)
        have hz2 : leV ((M.take 8).drop j) = 0 := drop_out (by have := HL.out; omega)
        have HZ2 := Lib.hid hz2
        subst hz
        clear hz2
        go_wp2_with fail
        go_roundg j
        case measure => omega
        case rel => exact ⟨0, by omega, by rfl, rfl, HZ2.out.symm, rfl⟩
theorem wordsE : Elem Try.prog 91 24 (.int .u64 0) 8 := ⟨Try.underlying91, by kernel_rfl, rfl, by omega⟩
theorem qvs_one (L : List Nat) : ∀ u ∈ qvs L, u.oneCell' = true := by
  intro u hu
  obtain ⟨n, _, rfl⟩ := List.mem_map.1 hu
  rfl
theorem Rd.front' {w : World} {a : Option Addr} {n cap k : Nat} {xs : List Value} (h : Rd w (.slice a n cap) xs) (hk : k ≤ n) : Rd w (.slice a k cap) (xs.take k) := by
  obtain ⟨a', c', e, h1, h2, h3⟩ := h
  simp only [Value.slice.injEq] at e
  obtain ⟨rfl, rfl, rfl⟩ := e
  have hl : (xs.take k).length = k := by rw [List.length_take]; omega
  refine ⟨a, cap, by rw [hl], by rw [hl]; omega, h2, ?_⟩
  rcases h3 with ⟨rfl, h4⟩ | ⟨b, off, rfl, hc⟩
  · exact .inl ⟨by simp, h4⟩
  · refine .inr ⟨b, off, rfl, ?_⟩
    intro j u hu
    rw [List.getElem?_take] at hu
    split at hu
    · exact hc j u hu
    · cases hu
theorem slOf {w : World} {B : Nat} {e : TypeId} {v : Value} {xs : List Value} (h : Own w B e v xs) : ∃ a n c, v = .slice a n c := by
  obtain ⟨_, h | ⟨g, cap, cur, h, _⟩⟩ := h
  · exact ⟨_, _, _, h.1⟩
  · exact ⟨_, _, _, h⟩
set_option maxRecDepth 100000 in
set_option maxHeartbeats 4000000 in
theorem sof_any (v : Value) (K : List Nat) (w : World) (h : Rd w v (bvs K)) (hK : ∀ n ∈ K, n < 256) :
    Calls Try.prog 18 #[v] w fun e w' => e = .returned (.agg (w4 (leV (K.take 64) % L))) ∧ Below w.heap.size w w' := by
  obtain ⟨n, hn⟩ : ∃ n, n = K.length := ⟨_, rfl⟩
  have hv : ∃ a c, v = .slice a n c ∧ n ≤ c ∧ c ≤ maxLen ∧ (n = 0 → a = none → c = 0) := by
    obtain ⟨a, c, e, h1, h2, h3⟩ := h
    refine ⟨a, c, by rw [e, bvs_len, hn], by rw [bvs_len] at h1; omega, h2, ?_⟩
    intro hn0 ha
    rcases h3 with ⟨_, h4⟩ | ⟨b, off, e, _⟩
    · exact h4 ha
    · rw [ha] at e; cases e
  obtain ⟨a, cap, rfl, hnc, hcm, hnil⟩ := hv
  obtain ⟨m, hm⟩ : ∃ m, m = min n 64 := ⟨_, rfl⟩
  have hm64 : m ≤ 64 := by omega
  have hmn : m ≤ n := by omega
  have hmin : min (n : Int) 64 = (m : Int) := by omega
  have hR : Rd w (.slice a m cap) (bvs (K.take 64)) := by
    have := h.front' hmn
    have e : (bvs K).take m = bvs (K.take 64) := by
      simp only [bvs, List.map_take]
      by_cases h64 : n ≤ 64
      · rw [List.take_of_length_le (by simp; omega), List.take_of_length_le (by simp; omega)]
      · rw [show m = 64 by omega]
    rw [e] at this
    exact this
  obtain ⟨M, hM⟩ : ∃ M, M = K.take 64 := ⟨_, rfl⟩
  have hMl : M.length = m := by rw [hM, List.length_take]; omega
  have hMb : ∀ n ∈ M, n < 256 := fun n hn => hK n (by rw [hM] at hn; exact List.mem_of_mem_take hn)
  rw [← hM] at hR ⊢
  have WO : ∀ (i : Nat) (wr : World), i < 1000 → Below w.heap.size w wr → Calls Try.prog 58 #[.slice a m cap, .int .i64 (i : Nat)] wr fun e w' => e = .returned (.int .u64 (leV ((M.drop i).take 8) : Nat)) ∧ w' = wr :=
    fun i wr hi hb => sword_any _ M i wr (hR.below hb (Nat.le_refl _)) hMb (by omega)
  have RE : ∀ (v : Value) (wr : World), Rd wr v (qvs (wlist M)) → Calls Try.prog 62 #[v] wr fun e w' => e = .returned (.agg (w4 (leV M % L))) ∧ Below wr.heap.size wr w' := by
    intro v wr hr
    have := sreduce_any v (wlist M) wr hr (wlist_wds hMb) (by have := wlist_len M; omega)
    rw [wlist_val] at this
    exact this
  have HWO := Lib.hid WO
  have HRE := Lib.hid RE
  have HML := Lib.hid hMl
  have hcm' : cap ≤ 9223372036854775807 := by unfold maxLen at hcm; omega
  obtain ⟨r, hr⟩ : ∃ r, r = leV M % L := ⟨_, rfl⟩
  rw [← hr] at HRE ⊢
  have hwl := wlist_len M
  have HWL : Hid (8 * (wlist M).length ≤ m + 7) := Lib.hid (by omega)
  obtain ⟨k1, k2, k3⟩ := blk2 w #[.int .u64 0, .int .u64 0, .int .u64 0, .int .u64 0] #[] 27 27
  have K1 := Lib.hid (Blk.new w 27 #[.int .u64 0, .int .u64 0, .int .u64 0, .int .u64 0])
  have K3 := Lib.hid ((Below.refl w.heap.size w).alloc (Nat.le_refl _) (.cells #[.int .u64 0, .int .u64 0, .int .u64 0, .int .u64 0] 27))
  clear k1 k2 k3 WO RE hMl hMb hR hr h hK hn hm hM hwl hcm
  by_cases h64 : n ≤ 64
  · obtain rfl : m = n := by omega
    clear hmin
    go_enter Try.func18, Try.ntmps18
    go_wp2_with fail
    go_loopg [3, 4] 72 (fun q ov iv wr => ∃ (p : Nat) (Wl : List Nat), q + p = 72 ∧ p ≤ m + 7 ∧ iv = .int .i64 (p : Nat) ∧ Hid (p = 8 * Wl.length) ∧ Hid (Wl ++ wlist (M.drop p) = wlist M) ∧ Blk wr w.heap.size 27 #[.int .u64 0, .int .u64 0, .int .u64 0, .int .u64 0] ∧ Own wr (w.heap.size + 1) 24 ov (qvs Wl) ∧ Below w.heap.size w wr)
    case atStart => exact ⟨0, [], rfl, by omega, rfl, rfl, rfl, K1.out, Own.nil _ _ _, K3.out⟩
    case round =>
      obtain ⟨p, Wl, hq, hp, rfl, HP, HW, k1, hown, hb⟩ := hrel
      have J1 := Lib.hid k1
      have HO := Lib.hid hown
      have HB := Lib.hid hb
      have hlt := k1.lt
      have HQ := Lib.hid hq
      clear k1 hown hb hq
      by_cases hpm : p < m
      · have hpm' : decide ((p : Int) < (m : Int)) = true := by rw [decide_eq_true_iff]; omega
        have D := HWO.out p wr (by omega) HB.out
        have hne : M.drop p ≠ [] := by intro e; have e1 := congrArg List.length e; rw [List.length_drop, List.length_nil] at e1; have := HML.out; omega
        have hcons := wlist_cons hne
        rw [List.drop_drop] at hcons
        obtain ⟨x, hx⟩ : ∃ x, x = leV ((M.drop p).take 8) := ⟨_, rfl⟩
        rw [← hx] at D hcons
        have hW2 : (Wl ++ [x]) ++ wlist (M.drop (p + 8)) = wlist M := by
          rw [List.append_assoc]
          have e := HW.out
          rw [hcons] at e
          exact e
        have hl : Wl.length < 20 := by have := HP.out; omega
        have HD := Lib.hid D
        have HW2 := Lib.hid hW2
        clear D hne hcons hx hW2
        go_wp2_with fail
        refine (HD.out).mono ?_
        rintro e w' ⟨rfl, rfl⟩
        go_wp2_with (at_builtin; refine wpList_app rfl (.tmp 16) (.tmp 20) 91 rfl (w.heap.size + 1) 24 _ 8 wordsE _ (qvs Wl) rfl (HO.out.alloc _) _ [.int .u64 (x : Nat)] rfl ?c1a ?c0a ?c2a ?c3a ?_)
        case c1a => exact (Own.full (B := w'.heap.size) (cs := #[.int .u64 (x : Nat)]) rfl (Nat.le_refl _) (by unfold maxLen; simp) rfl).rd
        case c0a => intro u hu; simp at hu; subst hu; rfl
        case c2a => simp; omega
        case c3a => simp; omega
        rintro v' w2 hown2 - hb2
        have HO2 := Lib.hid hown2
        have HBW := (Below.refl (w.heap.size + 1) w').alloc (by omega) (.cells #[.int .u64 (x : Nat)] 24)
        have HB2 := Lib.hid (HB.out.trans ((HBW.trans hb2).mono (by omega)))
        have J2 := Lib.hid (J1.out.below (HBW.trans hb2) (by omega))
        clear hown2 hb2 HBW
        go_wp2_with fail
        go_roundg (gk - 8)
        case measure => have := HQ.out; omega
        case rel =>
          refine ⟨p + 8, Wl ++ [x], by have := HQ.out; omega, by omega, by go_num, ?_, HW2.out, J2.out, ?_, HB2.out⟩
          · show _ = _
            rw [List.length_append]; have := HP.out; simp; omega
          · rw [qvs_snoc]
            exact HO2.out
      · have hpm' : decide ((p : Int) < (m : Int)) = false := by rw [decide_eq_false_iff_not]; omega
        have hW := HW.out
        rw [List.drop_eq_nil_of_le (by have := HML.out; omega), wlist_nil, List.append_nil] at hW
        subst hW
        have R := HRE.out _ wr HO.out.rd
        have HR := Lib.hid R
        obtain ⟨s1, s2, s3, rfl⟩ := slOf HO.out
        go_wp2_with fail
        refine (HR.out).mono ?_
        rintro e w3 ⟨rfl, hb3⟩
        have J3 := Lib.hid (J1.out.below hb3 J1.out.lt)
        have HB3 := Lib.hid (HB.out.trans (hb3.mono HB.out.size))
        clear hb3
        go_wp2_with (refine wpList_store_blk rfl 27 (.tmp 2) (.tmp 23) rfl w.heap.size (w4 r) rfl rfl _ _ J3.out (by kernel_rfl) rfl rfl ?_)
        rintro w2 hk2 hb2 - -
        have JK := Lib.hid hk2
        have JD := Lib.hid (HB3.out.trans (hb2 _ (Nat.le_refl _)))
        clear hk2 hb2
        go_wp2_with fail
        exact bodyPost_ret (v := .agg (w4 r)) (results_row1 Try.results18 _ _ w.heap.size _ _ _ rfl JK.out Try.underlying27 rfl (by kernel_rfl)) rfl ⟨rfl, JD.out⟩
  · obtain rfl : m = 64 := by omega
    clear hmin
    go_enter Try.func18, Try.ntmps18
    go_wp2_with fail
    go_loopg [3, 4] 72 (fun q ov iv wr => ∃ (p : Nat) (Wl : List Nat), q + p = 72 ∧ p ≤ 64 + 7 ∧ iv = .int .i64 (p : Nat) ∧ Hid (p = 8 * Wl.length) ∧ Hid (Wl ++ wlist (M.drop p) = wlist M) ∧ Blk wr w.heap.size 27 #[.int .u64 0, .int .u64 0, .int .u64 0, .int .u64 0] ∧ Own wr (w.heap.size + 1) 24 ov (qvs Wl) ∧ Below w.heap.size w wr)
    case atStart => exact ⟨0, [], rfl, by omega, rfl, rfl, rfl, K1.out, Own.nil _ _ _, K3.out⟩
    case round =>
      obtain ⟨p, Wl, hq, hp, rfl, HP, HW, k1, hown, hb⟩ := hrel
      have J1 := Lib.hid k1
      have HO := Lib.hid hown
      have HB := Lib.hid hb
      have hlt := k1.lt
      have HQ := Lib.hid hq
      clear k1 hown hb hq
      by_cases hpm : p < 64
      · have hpm' : decide ((p : Int) < (64 : Int)) = true := by rw [decide_eq_true_iff]; omega
        have D := HWO.out p wr (by omega) HB.out
        have hne : M.drop p ≠ [] := by intro e; have e1 := congrArg List.length e; rw [List.length_drop, List.length_nil] at e1; have := HML.out; omega
        have hcons := wlist_cons hne
        rw [List.drop_drop] at hcons
        obtain ⟨x, hx⟩ : ∃ x, x = leV ((M.drop p).take 8) := ⟨_, rfl⟩
        rw [← hx] at D hcons
        have hW2 : (Wl ++ [x]) ++ wlist (M.drop (p + 8)) = wlist M := by
          rw [List.append_assoc]
          have e := HW.out
          rw [hcons] at e
          exact e
        have hl : Wl.length < 20 := by have := HP.out; omega
        have HD := Lib.hid D
        have HW2 := Lib.hid hW2
        clear D hne hcons hx hW2
        go_wp2_with fail
        refine (HD.out).mono ?_
        rintro e w' ⟨rfl, rfl⟩
        go_wp2_with (at_builtin; refine wpList_app rfl (.tmp 16) (.tmp 20) 91 rfl (w.heap.size + 1) 24 _ 8 wordsE _ (qvs Wl) rfl (HO.out.alloc _) _ [.int .u64 (x : Nat)] rfl ?c1b ?c0b ?c2b ?c3b ?_)
        case c1b => exact (Own.full (B := w'.heap.size) (cs := #[.int .u64 (x : Nat)]) rfl (Nat.le_refl _) (by unfold maxLen; simp) rfl).rd
        case c0b => intro u hu; simp at hu; subst hu; rfl
        case c2b => simp; omega
        case c3b => simp; omega
        rintro v' w2 hown2 - hb2
        have HO2 := Lib.hid hown2
        have HBW := (Below.refl (w.heap.size + 1) w').alloc (by omega) (.cells #[.int .u64 (x : Nat)] 24)
        have HB2 := Lib.hid (HB.out.trans ((HBW.trans hb2).mono (by omega)))
        have J2 := Lib.hid (J1.out.below (HBW.trans hb2) (by omega))
        clear hown2 hb2 HBW
        go_wp2_with fail
        go_roundg (gk - 8)
        case measure => have := HQ.out; omega
        case rel =>
          refine ⟨p + 8, Wl ++ [x], by have := HQ.out; omega, by omega, by go_num, ?_, HW2.out, J2.out, ?_, HB2.out⟩
          · show _ = _
            rw [List.length_append]; have := HP.out; simp; omega
          · rw [qvs_snoc]
            exact HO2.out
      · have hpm' : decide ((p : Int) < (64 : Int)) = false := by rw [decide_eq_false_iff_not]; omega
        have hW := HW.out
        rw [List.drop_eq_nil_of_le (by have := HML.out; omega), wlist_nil, List.append_nil] at hW
        subst hW
        have R := HRE.out _ wr HO.out.rd
        have HR := Lib.hid R
        obtain ⟨s1, s2, s3, rfl⟩ := slOf HO.out
        go_wp2_with fail
        refine (HR.out).mono ?_
        rintro e w3 ⟨rfl, hb3⟩
        have J3 := Lib.hid (J1.out.below hb3 J1.out.lt)
        have HB3 := Lib.hid (HB.out.trans (hb3.mono HB.out.size))
        clear hb3
        go_wp2_with (refine wpList_store_blk rfl 27 (.tmp 2) (.tmp 23) rfl w.heap.size (w4 r) rfl rfl _ _ J3.out (by kernel_rfl) rfl rfl ?_)
        rintro w2 hk2 hb2 - -
        have JK := Lib.hid hk2
        have JD := Lib.hid (HB3.out.trans (hb2 _ (Nat.le_refl _)))
        clear hk2 hb2
        go_wp2_with fail
        exact bodyPost_ret (v := .agg (w4 r)) (results_row1 Try.results18 _ _ w.heap.size _ _ _ rfl JK.out Try.underlying27 rfl (by kernel_rfl)) rfl ⟨rfl, JD.out⟩
end Go.Proofs.Ytkihcngllhjabaa
