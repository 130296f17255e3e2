/- Walks: the reference's whole numbers: Num, trim, digit, Less. -/
import Derived.Test.YtkihcngllhjabaaProg
import Derived.Test.YtkihcngllhjabaaBitsLib
import Derived.Test.YtkihcngllhjabaaOpen
import Derived.Test.YtkihcngllhjabaaGrid
import Derived.Test.YtkihcngllhjabaaBigMath
import Derived.WalkSpells
import Derived.WalkLawsBesides
import Derived.Deep.LoopGhost
import Derived.Deep.QuietTactic
import Derived.BigQuiet
namespace Go.Proofs.Ytkihcngllhjabaa
open Go.RowKit BigM
/-- digits as values -/
def dvs (L : List Nat) : List Value := L.map fun n : Nat => .int .i64 (n : Int)
@[simp] theorem dvs_len (L : List Nat) : (dvs L).length = L.length := by simp [dvs]
theorem dvs_getD {L : List Nat} {i : Nat} (h : i < L.length) : (dvs L)[i]? = some (.int .i64 ((L.getD i 0 : Nat) : Int)) := by simp [dvs, h]
theorem dvs_append (L M : List Nat) : dvs (L ++ M) = dvs L ++ dvs M := by simp [dvs]
theorem dvs_snoc (L : List Nat) (d : Nat) : dvs (L ++ [d]) = dvs L ++ [.int .i64 (d : Int)] := by simp [dvs]
theorem dvs_take (L : List Nat) (k : Nat) : dvs (L.take k) = (dvs L).take k := by simp [dvs]
theorem dvs_set (L : List Nat) (k d : Nat) : dvs (L.set k d) = (dvs L).set k (.int .i64 (d : Int)) := by simp [dvs, List.map_set]
theorem dvs_one (L : List Nat) : ∀ u ∈ dvs L, u.oneCell' = true := by
  intro u hu
  obtain ⟨n, _, rfl⟩ := List.mem_map.1 hu
  rfl
/-- Digits that are read, taken apart. -/
theorem Rd.dcases {w : World} {v : Value} {L : List Nat} (h : Rd w v (dvs L)) :
    (∃ a cap, v = .slice a 0 cap ∧ L = []) ∨ ∃ b off cap, 0 < L.length ∧ L.length ≤ cap ∧ cap ≤ maxLen ∧ v = .slice (some ⟨b, off, none⟩) L.length cap ∧ b < w.heap.size ∧
      ∀ i, i < L.length → w.cell? ⟨b, off + i, none⟩ = some (.int .i64 ((L.getD i 0 : Nat) : Int)) := by
  have hlt := h.lt
  obtain ⟨a, cap, rfl, h1, h2, h3⟩ := h
  by_cases hL : L = []
  · subst hL; exact .inl ⟨a, cap, rfl, rfl⟩
  · right
    have hpos : 0 < L.length := List.length_pos_iff.2 hL
    have hne : dvs L ≠ [] := by intro h; apply hL; simpa [dvs] using h
    rcases h3 with h | ⟨b, off, rfl, hc⟩
    · exact absurd h.1 hne
    · rcases hlt with h | ⟨b', off', cap', he, hb⟩
      · exact absurd h hne
      · simp only [Value.slice.injEq, Option.some.injEq, Addr.mk.injEq] at he
        refine ⟨b, off, cap, hpos, by simpa using h1, h2, by simp, by omega, ?_⟩
        intro i hi
        exact hc i _ (dvs_getD hi)
/-- The front of what the call owns. -/
theorem Own.take {w : World} {B : Nat} {e : TypeId} {v : Value} {a : Option Addr} {n c : Nat} {xs : List Value} (h : Own w B e v xs) (hv : v = .slice a n c) (k : Nat) (hk : k ≤ n) : Own w B e (.slice a k c) (xs.take k) := by
  subst hv
  obtain ⟨h0, ⟨h1, h2⟩ | ⟨g, cap, cur, h1, hg, hh, hn, hm, hs, ht⟩⟩ := h
  · simp only [Value.slice.injEq] at h1
    obtain ⟨rfl, rfl, rfl⟩ := h1
    obtain rfl : k = 0 := by omega
    simpa using Own.nil w B e
  · simp only [Value.slice.injEq] at h1
    obtain ⟨rfl, rfl, rfl⟩ := h1
    have hl : (xs.take k).length = k := by rw [List.length_take]; omega
    refine ⟨by rw [hl, Nat.mul_one], .inr ⟨g, c, cur, by rw [hl], hg, hh, by omega, hm, hs, ?_⟩⟩
    rw [hl, Nat.mul_one, ← ht, List.take_take]
    congr 1; omega
theorem bigE : Elem Try.prog 31 3 (.int .i64 0) 8 := ⟨Try.underlying31, by kernel_rfl, rfl, by omega⟩
theorem Below.next' {a w w' : World} (h : Below a.heap.size a w) (h' : Below w.heap.size w w') : Below a.heap.size a w' := h.trans (h'.mono h.size)
set_option maxRecDepth 100000 in
set_option maxHeartbeats 1000000 in
theorem bnum_any (n : Nat) (w : World) (hn : n < 18446744073709551616) :
    Calls Try.prog 61 #[.int .u64 (n : Nat)] w fun e w' => ∃ v, e = .returned v ∧ Own w' w.heap.size 3 v (dvs (big n)) ∧ Below w.heap.size w w' := by
  obtain ⟨D, hD⟩ : ∃ D, D = big n := ⟨_, rfl⟩
  have hlen : D.length ≤ 5 := by rw [hD]; exact big_len_le (by omega)
  have HD := Lib.hid hD
  rw [← hD]
  clear hD
  go_enter Try.func61, Try.ntmps61
  go_wp2_with fail
  go_loopg [0, 3] n (fun q x out wr => ∃ L : List Nat, q < 18446744073709551616 ∧ x = .int .u64 (q : Nat) ∧ L ++ big q = D ∧ Own wr w.heap.size 3 out (dvs L) ∧ Below w.heap.size w wr)
  case atStart =>
    exact ⟨[], hn, rfl, by rw [HD.out]; rfl, Own.nil _ _ _, Below.refl _ _⟩
  case round =>
    obtain ⟨L, hq, rfl, hL, hown, hb⟩ := hrel
    have HO := Lib.hid hown
    have HB := Lib.hid hb
    have HL := Lib.hid hL
    have hsz := hb.size
    clear hown hb hL
    by_cases h0 : gk = 0
    · subst h0
      go_wp2_with fail
      go_ret
      refine ⟨_, rfl, ?_, HB.out⟩
      have := HL.out
      rw [big_zero, List.append_nil] at this
      rw [← this]
      exact HO.out
    · have hp : 0 < gk := by omega
      have hb0 : big gk = gk % 32768 :: big (gk / 32768) := big_pos h0
      have hl4 : L.length < 5 := by
        have := congrArg List.length HL.out
        rw [hb0] at this
        simp at this; omega
      have HB0 := Lib.hid hb0
      clear h0 hb0
      go_wp2_with (at_builtin; refine wpList_app rfl (.tmp 6) (.tmp 10) 31 rfl w.heap.size 3 _ 8 bigE _ (dvs L) rfl (HO.out.alloc _) _ [.int .i64 ((gk : Int) % 32768)] rfl ?c1 ?c0 ?c2 ?c3 ?_)
      case c1 => exact (Own.full (B := wr.heap.size) (cs := #[.int .i64 ((gk : Int) % 32768)]) rfl (Nat.le_refl _) (by unfold maxLen; simp) rfl).rd
      case c0 => intro u hu; simp at hu; subst hu; rfl
      case c2 => simp; omega
      case c3 => simp; omega
      rintro v' w2 hown2 - hb2
      have HO2 := Lib.hid hown2
      have HB2 := Lib.hid ((HB.out.alloc hsz _).trans hb2)
      clear hown2 hb2
      go_wp2_with fail
      go_roundg (gk / 32768)
      case measure => omega
      case rel =>
        refine ⟨L ++ [gk % 32768], by omega, by go_num, ?_, ?_, HB2.out⟩
        · rw [List.append_assoc]
          have := HL.out
          rw [HB0.out] at this
          exact this
        · rw [dvs_snoc]
          exact HO2.out
set_option maxRecDepth 100000 in
set_option maxHeartbeats 1000000 in
theorem btrim_any (v : Value) (L : List Nat) (B : Nat) (w : World) (h : Own w B 3 v (dvs L)) (hd : Dig L) (hl : L.length < 1099511627776) :
    Calls Try.prog 67 #[v] w fun e w' => ∃ v', e = .returned v' ∧ Own w B 3 v' (dvs (big (bval L))) ∧ w' = w := by
  have hv : ∃ a cap, v = .slice a L.length cap := by
    rcases h.form with rfl | ⟨g, cap, rfl⟩
    · have := h.1
      obtain ⟨a, cap, e, _⟩ := h.rd
      simp only [Value.slice.injEq, dvs_len] at e
      exact ⟨none, 0, by rw [← e.2.1]⟩
    · exact ⟨_, cap, by rw [dvs_len]⟩
  obtain ⟨a, cap, rfl⟩ := hv
  obtain ⟨k, hk⟩ : ∃ k, k = L.length := ⟨_, rfl⟩
  rw [← hk]
  have HO := Lib.hid h
  have HD := Lib.hid hd
  have HK := Lib.hid hk
  clear h hd
  have hk' : k < 1099511627776 := by omega
  clear hk hl
  go_enter Try.func67, Try.ntmps67
  go_wp2_with fail
  go_loopg [0] k (fun q x wr => q ≤ k ∧ x = .slice a q cap ∧ bval (L.take q) = bval L ∧ w = wr)
  case atStart => exact ⟨Nat.le_refl _, rfl, by rw [HK.out, List.take_length], rfl⟩
  case round =>
    obtain ⟨hq, rfl, hv, rfl⟩ := hrel
    have HV := Lib.hid hv
    clear hv
    have hown : Own w B 3 (.slice a gk cap) (dvs (L.take gk)) := by
      rw [dvs_take]
      refine Own.take HO.out (a := a) (n := k) (c := cap) ?_ gk hq
      rw [HK.out]
    have HW := Lib.hid hown
    by_cases h0 : gk = 0
    · subst h0
      clear hown
      go_wp2_with fail
      go_ret
      refine ⟨_, rfl, ?_, rfl⟩
      have e := HV.out
      rw [List.take_zero] at e
      rw [← e]
      show Own _ _ _ _ (dvs (big 0))
      rw [big_zero]
      exact HW.out
    · obtain ⟨j, rfl⟩ : ∃ j, gk = j + 1 := ⟨gk - 1, by omega⟩
      have hjl : j < L.length := by have := HK.out; omega
      have htl : (dvs (L.take (j + 1))).length = j + 1 := by rw [dvs_len, List.length_take]; omega
      obtain ⟨g, cap', cur, e1, hg, hgl, hh, hn, hm, hcs, htk, hc, -⟩ := hown.out (by intro h; rw [h] at htl; simp at htl)
      rw [htl] at e1
      simp only [Value.slice.injEq] at e1
      obtain ⟨rfl, -, rfl⟩ := e1
      have hcj : j + 1 ≤ cap := by rw [htl] at hn; exact hn
      have hcell : w.cell? ⟨g, j, none⟩ = some (.int .i64 ((L.getD j 0 : Nat) : Int)) := by
        refine hc j _ ?_
        rw [dvs_getD (by rw [List.length_take]; omega)]
        simp [List.getD_eq_getElem?_getD, List.getElem?_take]
      have hx : L.getD j 0 < 32768 := by
        rw [List.getD_eq_getElem?_getD, List.getElem?_eq_getElem hjl]
        exact HD.out _ (List.getElem_mem hjl)
      obtain ⟨x, hx'⟩ : ∃ x, L.getD j 0 = x := ⟨_, rfl⟩
      rw [hx'] at hcell hx
      have hts : L.take (j + 1) = L.take j ++ [x] := by
        rw [List.take_succ_eq_append_getElem hjl, ← hx']
        simp [List.getD_eq_getElem?_getD, List.getElem?_eq_getElem hjl]
      have HTS := Lib.hid hts
      have ej : ((j + 1 : Nat) : Int) - 1 = (j : Int) := by omega
      clear hown hh hcs htk hc hts hn htl hx' h0
      by_cases hx0 : x = 0
      · subst hx0
        go_wp2_with fail
        go_roundg j
        case measure => omega
        case rel =>
          refine ⟨by omega, rfl, ?_, rfl⟩
          have e := HV.out
          rw [HTS.out, bval_snoc] at e
          simpa using e
      · have hxb : ((x : Int) == 0) = false := by simp; omega
        go_wp2_with fail
        go_ret
        refine ⟨_, rfl, ?_, rfl⟩
        rw [← HV.out, HTS.out, canon _ _ ?_ hx0, ← HTS.out]
        · exact HW.out
        · rw [← HTS.out]; exact HD.out.take _
set_option maxRecDepth 100000 in
set_option maxHeartbeats 1000000 in
theorem bdigit_any (v : Value) (n i : Nat) (w : World) (h : Rd w v (dvs (big n))) (hi : i < 1099511627776) :
    Calls Try.prog 68 #[v, .int .i64 (i : Nat)] w fun e w' => e = .returned (.int .i64 (dg n i : Nat)) ∧ w' = w := by
  obtain ⟨k, hk⟩ : ∃ k, k = (big n).length := ⟨_, rfl⟩
  rcases h.dcases with ⟨a, cap, rfl, h0⟩ | ⟨b, off, cap, hpos, hc1, hc2, rfl, hb, hcell⟩
  · rw [dg_out (n := n) (i := i) (by rw [h0]; simp)]
    go_enter Try.func68, Try.ntmps68
    go_wp2_with fail
    go_ret
    exact ⟨rfl, rfl⟩
  · rw [← hk] at hpos hc1 hcell ⊢
    by_cases hlt : i < k
    · have hg := hcell i hlt
      have e : (big n).getD i 0 = dg n i := by rw [List.getD_eq_getElem?_getD, big_get n i (by omega)]; rfl
      rw [e] at hg
      have hm : k ≤ 9223372036854775807 := by unfold maxLen at hc2; omega
      clear hcell e h
      go_enter Try.func68, Try.ntmps68
      go_wp2_with fail
      go_ret
      exact ⟨rfl, rfl⟩
    · rw [dg_out (n := n) (i := i) (by omega)]
      clear hcell h
      go_enter Try.func68, Try.ntmps68
      go_wp2_with fail
      go_ret
      exact ⟨rfl, rfl⟩
end Go.Proofs.Ytkihcngllhjabaa
