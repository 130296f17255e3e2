/- Walks: the reference's Members, Is; tree.member. -/
import Derived.Test.YtohldijomcljkaaZTreeResolves20
namespace Go.Proofs.Ytohldijomcljkaa
open Go.RowKit WalkM WireM
set_option linter.unusedVariables false
/-- the members among the first leaves -/
def rmemL (t : List NodeD) (m : Nat) : List Int := ((List.range m).filter fun i => (nd t (2 * i)).kind == 1).map fun i => ((i : Nat) : Int)
theorem rmemL_yes {t : List NodeD} {m : Nat} (h : (nd t (2 * m)).kind = 1) : rmemL t (m + 1) = rmemL t m ++ [((m : Nat) : Int)] := by
  unfold rmemL
  rw [List.range_succ, List.filter_append, List.map_append]
  congr 1
  rw [List.filter_cons_of_pos (by rw [h]; rfl)]; rfl
theorem rmemL_no {t : List NodeD} {m : Nat} (h : (nd t (2 * m)).kind ≠ 1) : rmemL t (m + 1) = rmemL t m := by
  unfold rmemL
  rw [List.range_succ, List.filter_append, List.map_append, List.filter_cons_of_neg (by simpa using h)]; simp
theorem rmemL_len (t : List NodeD) (m : Nat) : (rmemL t m).length ≤ m := by
  unfold rmemL
  rw [List.length_map]
  exact Nat.le_trans (List.length_filter_le _ _) (by simp)
/-- both tell the same members -/
theorem mem_eq {t : List NodeD} (hp : placedB t = true) : ∀ m, 2 * m < t.length → memL t (2 * m + 1) = rmemL t (m + 1) := by
  intro m
  have step : ∀ m, memL t (2 * m) = rmemL t m → memL t (2 * m + 1) = rmemL t (m + 1) := by
    intro m h
    by_cases hk : (nd t (2 * m)).kind = 1
    · rw [memL_yes hk, rmemL_yes hk, h, show 2 * m / 2 = m by omega]
    · rw [memL_no hk, rmemL_no hk, h]
  induction m with
  | zero => intro _; exact step 0 rfl
  | succ m ih =>
    intro hm
    refine step (m + 1) ?_
    have hk : (nd t (2 * m + 1)).kind ≠ 1 := by
      have := (placed_at hp (x := 2 * m + 1) (by omega)).1
      rwa [otherK_odd (by omega)] at this
    rw [show 2 * (m + 1) = 2 * m + 1 + 1 by omega, memL_no hk]
    exact ih (by omega)
theorem mem_iff (t : List NodeD) (m : Nat) (i : Nat) : ((i : Nat) : Int) ∈ rmemL t m ↔ i < m ∧ (nd t (2 * i)).kind = 1 := by
  unfold rmemL
  simp only [List.mem_map, List.mem_filter, List.mem_range, beq_iff_eq]
  constructor
  · rintro ⟨j, ⟨h1, h2⟩, e⟩
    have : j = i := by omega
    subst this
    exact ⟨h1, h2⟩
  · rintro ⟨h1, h2⟩
    exact ⟨i, ⟨h1, h2⟩, rfl⟩
theorem mem_neg (t : List NodeD) (m : Nat) {i : Int} (h : i < 0) : i ∉ rmemL t m := by
  unfold rmemL
  simp only [List.mem_map, List.mem_filter, List.mem_range]
  rintro ⟨j, _, e⟩
  omega
set_option maxRecDepth 100000 in
set_option maxHeartbeats 4000000 in
theorem rmembers_any (v : Value) (t : List NodeD) (hh : Nat) (w : World) (h : TreeR w v t) (hok : TreeOk t) (hlen : t.length = 2 * hh + 1) (hl : hh ≤ 1000) :
    Calls Try.prog 45 #[v] w fun e w' => ∃ v', e = .returned v' ∧ Own w' w.heap.size 3 v' (ivs .i64 (rmemL t (hh + 1))) ∧ Below w.heap.size w w' := by
  obtain ⟨a, c, rfl, hc, hc2⟩ := h.sl
  have GA := fun (W : World) (hw : Below w.heap.size w W) (i : Nat) (hi : i < t.length) => (h.below hw (Nat.le_refl _)).at hi
  have K := fun (i : Nat) => (hok.nd i).kind
  obtain ⟨n, hn⟩ : ∃ n, n = t.length := ⟨_, rfl⟩
  rw [← hn] at GA hc hlen ⊢
  have HGA := Lib.hid GA
  have HK := Lib.hid K
  have HLEN := Lib.hid hlen
  have hn2 : n ≤ 2001 := by omega
  clear GA K h hn hok hlen
  go_enter Try.func45, Try.ntmps45
  go_wp2_with fail
  go_loopg [3, 4] (hh + 1) (fun q ov iv wr => ∃ r : Nat, r + q = hh + 1 ∧ iv = .int .i64 (r : Nat) ∧ Own wr w.heap.size 3 ov (ivs .i64 (rmemL t r)) ∧ Below w.heap.size w wr)
  case atStart => exact ⟨0, by omega, rfl, Own.nil _ _ _, Below.refl _ _⟩
  case round =>
    obtain ⟨r, hr, rfl, hown, hb⟩ := hrel
    have HR := Lib.hid hr
    have HO := Lib.hid hown
    have HB := Lib.hid hb
    have hw : wrap64 (2 * (r : Int)) = 2 * (r : Int) := by unfold wrap64; omega
    by_cases hlt : r < hh + 1
    · have hlt' : decide (2 * (r : Int) < (n : Int)) = true := decide_eq_true (by have := HLEN.out; omega)
      have hltN : 2 * r < n := by have := HLEN.out; omega
      have hltI : 2 * (r : Int) < (n : Int) := by omega
      have hm2 : (2 * (r : Int)).toNat = 2 * r := by omega
      obtain ⟨b, off, l1, e1, rfl, hbl, ck, -, -⟩ := HGA.out wr hb (2 * r) hltN
      have hkd0 := HK.out (2 * r)
      obtain ⟨kd, hkd⟩ : ∃ k, k = (nd t (2 * r)).kind := ⟨_, rfl⟩
      rw [← hkd] at ck hkd0
      have HKD := Lib.hid hkd
      obtain ⟨p1, p2, p3, rfl⟩ := slOf hown
      have hml := rmemL_len t r
      have HML := Lib.hid hml
      clear hr hown hb hkd hml
      by_cases hk : kd = 1
      · have hq1 : ((kd : Int) == 1) = true := by rw [beq_iff_eq]; omega
        have HE := Lib.hid (rmemL_yes (t := t) (m := r) (by rw [← HKD.out]; exact hk))
        clear hk
        go_wp2_with (at_builtin; refine wpList_push rfl (.tmp 19) (.tmp 21) 37 rfl w.heap.size 3 _ 8 intsE _ _ rfl (HO.out.alloc _) ⟨wr.heap.size, 0, none⟩ (.int .i64 (r : Nat)) rfl ?c1 rfl ?c2 ?c3 ?_)
        case c1 => exact cell_new rfl
        case c2 => rw [ivs_len']; have := HML.out; omega
        case c3 => have := HB.out.size; simp; omega
        rintro v' w1 hown1 - hb1
        have HO1 := Lib.hid hown1
        have HB1 := Lib.hid ((HB.out.alloc HB.out.size (.cells #[.int .i64 (r : Nat)] 3)).trans hb1)
        clear hown1 hb1
        go_wp2_with fail
        go_roundg (gk - 1)
        case measure => have := HR.out; omega
        case rel =>
          refine ⟨r + 1, by have := HR.out; omega, by go_num, ?_, HB1.out⟩
          rw [HE.out]
          have := HO1.out
          simpa [ivs] using this
      · have hq1 : ((kd : Int) == 1) = false := by rw [beq_eq_false_iff_ne]; omega
        have hq2 : (kd : Int) ≠ 1 := by omega
        have HE := Lib.hid (rmemL_no (t := t) (m := r) (by rw [← HKD.out]; exact hk))
        clear hk
        go_wp2_with fail
        go_roundg (gk - 1)
        case measure => have := HR.out; omega
        case rel =>
          refine ⟨r + 1, by have := HR.out; omega, by go_num, ?_, HB.out⟩
          rw [HE.out]
          exact HO.out
    · have hlt' : decide (2 * (r : Int) < (n : Int)) = false := decide_eq_false (by have := HLEN.out; have := HR.out; omega)
      have hrr : r = hh + 1 := by have := HR.out; omega
      have HO2 := Lib.hid (show Own wr w.heap.size 3 _ (ivs .i64 (rmemL t (hh + 1))) from by rw [← hrr]; exact hown)
      clear hr hown hb hlt hrr
      go_wp2_with fail
      go_ret
      exact ⟨_, rfl, HO2.out, HB.out⟩
set_option maxRecDepth 100000 in
set_option maxHeartbeats 4000000 in
theorem ris_any (v : Value) (t : List NodeD) (hh : Nat) (i : Int) (w : World) (h : TreeR w v t) (hok : TreeOk t) (hlen : t.length = 2 * hh + 1) (hl : hh ≤ 1000) :
    Calls Try.prog 46 #[v, .int .i64 i] w fun e w' => e = .returned (.bool (decide (i ∈ rmemL t (hh + 1)))) ∧ Below w.heap.size w w' := by
  have MB := rmembers_any v t hh w h hok hlen hl
  obtain ⟨a, c, rfl, hc, hc2⟩ := h.sl
  obtain ⟨M, hM⟩ : ∃ M, M = rmemL t (hh + 1) := ⟨_, rfl⟩
  rw [← hM] at MB ⊢
  obtain ⟨n, hn⟩ : ∃ n, n = t.length := ⟨_, rfl⟩
  rw [← hn] at MB ⊢
  have HMB := Lib.hid MB
  obtain ⟨R, hR⟩ : ∃ R, R = decide (i ∈ M) := ⟨_, rfl⟩
  rw [← hR]
  have HH := Lib.hid (fun (W : World) (u : Value) (hu : Rd W u (ivs .i64 M)) => (show Calls Try.prog 58 #[u, .int .i64 i] W fun e w' => e = .returned (.bool R) ∧ w' = W from by rw [hR]; exact thas_any u M i W hu))
  clear MB h hok hlen hl hM hn hR hc
  go_enter Try.func46, Try.ntmps46
  go_wp2_with fail
  refine (HMB.out).mono ?_
  rintro e w1 ⟨v1, rfl, hown, hb⟩
  have HB := Lib.hid hb
  have HR1 := Lib.hid hown.rd
  obtain ⟨p1, p2, p3, rfl⟩ := slOf hown
  clear hown hb
  go_wp2_with fail
  refine (HH.out w1 _ HR1.out).mono ?_
  rintro e w2 ⟨rfl, rfl⟩
  go_wp2_with fail
  go_ret
  exact ⟨rfl, HB.out⟩
end Go.Proofs.Ytohldijomcljkaa
