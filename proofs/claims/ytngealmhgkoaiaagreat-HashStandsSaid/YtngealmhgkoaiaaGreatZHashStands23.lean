/- The library's slices.Sort at []int: the kit's proved contract, laid at this program. -/
import Derived.Shelf.SortM.Plain
import Derived.Shelf.SortM.SortNone
import Derived.Test.YtngealmhgkoaiaaGreatProg
import Derived.Test.YtngealmhgkoaiaaGreatZHashStands00
import Derived.Test.YtngealmhgkoaiaaGreatZHashStands15
import Derived.Test.YtngealmhgkoaiaaGreatZHashStands03
import Derived.Shelf.Slices.Delete
import Derived.Sort.OwnSortedInts
import Derived.Deep.QuietTactic
import Derived.BigQuiet
namespace Go.Proofs.YtngealmhgkoaiaaGreat
open Go.RowKit
set_option linter.unusedVariables false
def sortLayRen : Go.Shelf.Ren := ⟨fun | 5 => 154 | 8 => 216 | 7 => 215 | 19 => 248 | 20 => 249 | 10 => 240 | 11 => 241 | 12 => 242 | 13 => 243 | 14 => 244 | 15 => 245 | 16 => 191 | 17 => 246 | 18 => 247 | 30 => 264 | 31 => 265 | 32 => 266 | 33 => 267 | 34 => 268 | 35 => 236 | 40 => 274 | n => n, fun | 23 => 50 | 25 => 3 | 3 => 3 | 32 => 197 | 22 => 50 | 0 => 0 | 44 => 233 | 46 => 126 | 4 => 4 | 36 => 227 | 35 => 226 | 41 => 148 | 5 => 5 | 9 => 9 | 53 => 246 | 57 => 250 | 63 => 260 | 64 => 102 | n => n, fun | n => n⟩
theorem sortLay : Go.Proofs.SlLaysM.n5 Tryz.prog sortLayRen := {
 mixed := by kernel_rfl
 f5 := ⟨Tryz.f154.name, by decide, Tryz.func154.trans (congrArg some (by kernel_rfl))⟩
 f7 := ⟨Tryz.f215.name, by decide, Tryz.func215.trans (congrArg some (by kernel_rfl))⟩
 f8 := Tryz.func216.trans (congrArg some (by kernel_rfl))
 f10 := ⟨Tryz.f240.name, by decide, Tryz.func240.trans (congrArg some (by kernel_rfl))⟩
 f11 := ⟨Tryz.f241.name, by decide, Tryz.func241.trans (congrArg some (by kernel_rfl))⟩
 f12 := ⟨Tryz.f242.name, by decide, Tryz.func242.trans (congrArg some (by kernel_rfl))⟩
 f13 := ⟨Tryz.f243.name, by decide, Tryz.func243.trans (congrArg some (by kernel_rfl))⟩
 f14 := ⟨Tryz.f244.name, by decide, Tryz.func244.trans (congrArg some (by kernel_rfl))⟩
 f15 := ⟨Tryz.f245.name, by decide, Tryz.func245.trans (congrArg some (by kernel_rfl))⟩
 f16 := ⟨Tryz.f191.name, by decide, Tryz.func191.trans (congrArg some (by kernel_rfl))⟩
 f17 := ⟨Tryz.f246.name, by decide, Tryz.func246.trans (congrArg some (by kernel_rfl))⟩
 f18 := ⟨Tryz.f247.name, by decide, Tryz.func247.trans (congrArg some (by kernel_rfl))⟩
 f19 := Tryz.func248.trans (congrArg some (by kernel_rfl))
 f20 := Tryz.func249.trans (congrArg some (by kernel_rfl))
 f30 := ⟨Tryz.f264.name, by decide, Tryz.func264.trans (congrArg some (by kernel_rfl))⟩
 f31 := Tryz.func265.trans (congrArg some (by kernel_rfl))
 f32 := Tryz.func266.trans (congrArg some (by kernel_rfl))
 f33 := ⟨Tryz.f267.name, by decide, Tryz.func267.trans (congrArg some (by kernel_rfl))⟩
 f34 := ⟨Tryz.f268.name, by decide, Tryz.func268.trans (congrArg some (by kernel_rfl))⟩
 f35 := ⟨Tryz.f236.name, by decide, Tryz.func236.trans (congrArg some (by kernel_rfl))⟩
 f40 := ⟨Tryz.f274.name, by decide, Tryz.func274.trans (congrArg some (by kernel_rfl))⟩
 t0 := Tryz.underlying0
 a0 := Tryz.isAgg0
 z0 := Tryz.sizeOf0
 v0 := Tryz.zeroValue0
 t3 := Tryz.underlying3
 a3 := Tryz.isAgg3
 z3 := Tryz.sizeOf3
 v3 := Tryz.zeroValue3
 t4 := Tryz.underlying4
 a4 := Tryz.isAgg4
 z4 := Tryz.sizeOf4
 v4 := Tryz.zeroValue4
 t5 := Tryz.underlying5
 a5 := Tryz.isAgg5
 z5 := Tryz.sizeOf5
 v5 := Tryz.zeroValue5
 t9 := Tryz.underlying9
 a9 := Tryz.isAgg9
 z9 := Tryz.sizeOf9
 v9 := Tryz.zeroValue9
 t22 := Tryz.underlying50
 a22 := Tryz.isAgg50
 z22 := Tryz.sizeOf50
 v22 := Tryz.zeroValue50
 t23 := Tryz.underlying50
 a23 := Tryz.isAgg50
 z23 := Tryz.sizeOf50
 v23 := Tryz.zeroValue50
 t25 := Tryz.underlying3
 a25 := Tryz.isAgg3
 z25 := Tryz.sizeOf3
 v25 := Tryz.zeroValue3
 t32 := Tryz.underlying197
 a32 := Tryz.isAgg197
 z32 := Tryz.sizeOf197
 v32 := Tryz.zeroValue197
 t35 := Tryz.underlying226
 a35 := Tryz.isAgg226
 z35 := Tryz.sizeOf226
 v35 := Tryz.zeroValue226
 t36 := Tryz.underlying227
 a36 := Tryz.isAgg227
 z36 := Tryz.sizeOf227
 v36 := Tryz.zeroValue227
 t41 := Tryz.underlying148
 a41 := Tryz.isAgg148
 z41 := Tryz.sizeOf148
 v41 := Tryz.zeroValue148
 t44 := Tryz.underlying233
 a44 := Tryz.isAgg233
 z44 := Tryz.sizeOf233
 v44 := Tryz.zeroValue233
 t46 := Tryz.underlying126
 a46 := Tryz.isAgg126
 z46 := Tryz.sizeOf126
 v46 := Tryz.zeroValue126
 t53 := Tryz.underlying246
 a53 := Tryz.isAgg246
 z53 := Tryz.sizeOf246
 v53 := Tryz.zeroValue246
 t57 := Tryz.underlying250
 a57 := Tryz.isAgg250
 z57 := Tryz.sizeOf250
 v57 := Tryz.zeroValue250
 t63 := Tryz.underlying260
 a63 := Tryz.isAgg260
 z63 := Tryz.sizeOf260
 v63 := Tryz.zeroValue260
 t64 := Tryz.underlying102
 a64 := Tryz.isAgg102
 z64 := Tryz.sizeOf102
 v64 := Tryz.zeroValue102 }
end Go.Proofs.YtngealmhgkoaiaaGreat
/- The library's slices.Sort, Delete, Equal at []int, on lists that the call owns. -/
namespace Go.Proofs.YtngealmhgkoaiaaGreat
open Go.RowKit Go.Sort
set_option linter.unusedVariables false
def delRen : Go.Shelf.Ren := ⟨fun | 23 => 152 | n => n, fun | 0 => 0 | 3 => 3 | 4 => 4 | 22 => 50 | n => n, fun n => n⟩
theorem delLay : Lays2.n23 Tryz.prog delRen := {
 mixed := by kernel_rfl
 f23 := Tryz.func152.trans (congrArg some (by kernel_rfl))
 t0 := Tryz.underlying0
 a0 := Tryz.isAgg0
 z0 := Tryz.sizeOf0
 v0 := Tryz.zeroValue0
 t3 := Tryz.underlying3
 a3 := Tryz.isAgg3
 z3 := Tryz.sizeOf3
 v3 := Tryz.zeroValue3
 t4 := Tryz.underlying4
 a4 := Tryz.isAgg4
 z4 := Tryz.sizeOf4
 v4 := Tryz.zeroValue4
 t22 := Tryz.underlying50
 a22 := Tryz.isAgg50
 z22 := Tryz.sizeOf50
 v22 := Tryz.zeroValue50
 i3 := by kernel_rfl }
theorem grown_none {w w' : World} {g B : Nat} (h : w.grownBy w' (some g)) (hB : B ≤ g) (hw : B ≤ w.heap.size) : Below B w w' :=
 ⟨h.os, h.tape, h.output, h.size, fun i hi => h.block i (by omega) (by simp; omega)⟩
/-- numbers that rise, or are alike -/
def sortL (L : List Int) : List Int := L.mergeSort fun x y => decide (x ≤ y)
theorem sortL_len (L : List Int) : (sortL L).length = L.length := List.length_mergeSort L
theorem isort_any (V : Value) (L : List Int) (B : Nat) (w : World) (h : Own w B 3 V (ivs .i64 L)) (hl : L.length ≤ 1000000) (hB : B ≤ w.heap.size) :
  Calls Tryz.prog 154 #[V] w fun e w' => e = .returned (.tuple #[]) ∧ Own w' B 3 V (ivs .i64 (sortL L)) ∧ Below B w w' ∧ (∀ g, g < w.heap.size → V.ownBlock ≠ some g → w'.heap[g]? = w.heap[g]?) := by
 rcases h.2 with ⟨rfl, hn⟩ | ⟨g, cap, cur, rfl, hg, hh, hn, hm, hs, ht⟩
 ·have hL : L = [] := by
   have := h.1
   cases L with
   | nil => rfl
   | cons x L => simp [ivs] at hn
  subst hL
  refine (AnyM.slices_Sort_int_none sortLay none 0 w).mono ?_
  rintro e w' ⟨rfl, rfl⟩
  exact ⟨rfl, by simp [sortL, ivs]; exact Own.nil _ _ _, Below.refl _ _, fun _ _ _ => rfl⟩
 ·have hlen : (ivs .i64 L).length = L.length := by simp [ivs]
  rw [hlen] at hn ht ⊢
  rw [Nat.mul_one] at ht
  have hH : Holds (Value.int .i64) w g 0 L.toArray := holds_of_blockI (ss := L) hh (by rw [ht]; rfl)
  have hlt : g < w.heap.size := (Array.getElem?_eq_some_iff.1 hh).1
  refine (AnyM.slices_Sort_int sortLay g 0 cap L w hH hlt (by omega)).mono ?_
  rintro e w' ⟨rfl, n, os, rfl⟩
  have ho := ownsRow_sortedI (n := n) (os := os) (ts := sortL L) (sortL_len L) hg hh hn hm (by omega)
  have hgr : w.grownBy _ (some g) := grownBy_sortedI (w := w) (g := g) (n := n) (os := os) (sortL L).toArray
  refine ⟨rfl, ?_, grown_none hgr hg hB, fun k hk hne => hgr.block k hk (fun e => hne (by simp [Value.ownBlock]; exact (by simpa using e.symm)))⟩
  unfold Own
  rw [show (ivs .i64 (sortL L)).length = L.length by simp [ivs, sortL_len]]
  exact ho
theorem own_front {w : World} {B g n cap m : Nat} {e : TypeId} {xs : List Value} (h : Own w B e (.slice (some ⟨g, 0, none⟩) n cap) xs) (hm : m ≤ n) : Own w B e (.slice (some ⟨g, 0, none⟩) m cap) (xs.take m) := by
 obtain ⟨h1, ⟨h2, _⟩ | ⟨g', cap', cur, h2, h3, h4, h5, h6, h7, h8⟩⟩ := h
 ·cases h2
 ·simp only [Value.slice.injEq, Option.some.injEq, Addr.mk.injEq, and_true] at h2
  obtain ⟨rfl, hn, rfl⟩ := h2
  have hl : (xs.take m).length = m := by rw [List.length_take]; omega
  refine ⟨by rw [Nat.mul_one], .inr ⟨g, cap, cur, by rw [hl], h3, h4, by rw [hl]; omega, h6, h7, ?_⟩⟩
  rw [hl, Nat.mul_one, ← h8, List.take_take, Nat.min_eq_left (by omega)]
theorem cut_one {α : Type} (L : List α) (i : Nat) (z : α) (hi : i < L.length) : (L.take i ++ L.drop (i + 1) ++ [z]).take (L.length - 1) = L.eraseIdx i := by
 rw [List.take_append_of_le_length (by rw [List.length_append, List.length_take, List.length_drop]; omega), List.take_of_length_le (by rw [List.length_append, List.length_take, List.length_drop]; omega), List.eraseIdx_eq_take_drop_succ]
theorem idel_any (V : Value) (L : List Int) (i B : Nat) (w : World) (h : Own w B 3 V (ivs .i64 L)) (hi : i < L.length) (hl : L.length ≤ 1000000) (hB : B ≤ w.heap.size) :
  Calls Tryz.prog 152 #[V, .int .i64 (i : Nat), .int .i64 ((i : Int) + 1)] w fun e w' => ∃ V', e = .returned V' ∧ Own w' B 3 V' (ivs .i64 (L.eraseIdx i)) ∧ Below B w w' ∧ (∀ g, g < w.heap.size → V.ownBlock ≠ some g → w'.heap[g]? = w.heap[g]?) := by
 rcases h.2 with ⟨rfl, hn⟩ | ⟨g, cap, cur, rfl, hg, hh, hn, hm, hs, ht⟩
 ·have hL : L = [] := by
   cases L with
   | nil => rfl
   | cons x L => simp [ivs] at hn
  subst hL
  simp at hi
 ·have hlen : (ivs .i64 L).length = L.length := by simp [ivs]
  rw [hlen] at hn ht ⊢
  rw [Nat.mul_one] at ht
  have hH : Holds (Value.int .i64) w g 0 L.toArray := holds_of_blockI (ss := L) hh (by rw [ht]; rfl)
  have hlt : g < w.heap.size := (Array.getElem?_eq_some_iff.1 hh).1
  have hm' : cap ≤ 9223372036854775807 := by unfold maxLen at hm; exact hm
  have hd := Any.slices_Delete_int delLay g 0 cap i (i + 1) L w hH hn hm' (by omega) (by omega)
  rw [show ((i + 1 : Nat) : Int) = (i : Int) + 1 by omega, show i + 1 - i = 1 by omega] at hd
  refine hd.mono ?_
  rintro e w' ⟨rfl, q, hw⟩
  have ho := ownsRow_sortedI (n := q) (os := #[]) (ss := L) (ts := L.take i ++ L.drop (i + 1) ++ List.replicate 1 0) (by simp; omega) hg hh hn hm (by omega)
  have hgr : w.grownBy _ (some g) := grownBy_sortedI (w := w) (g := g) (n := q) (os := #[]) (L.take i ++ L.drop (i + 1) ++ List.replicate 1 0).toArray
  rw [grow_empty, ← hw] at ho hgr
  refine ⟨_, rfl, ?_, grown_none hgr hg hB, fun k hk hne => hgr.block k hk (fun e => hne (by simp [Value.ownBlock]; exact (by simpa using e.symm)))⟩
  have ho2 : Own w' B 3 (.slice (some ⟨g, 0, none⟩) L.length cap) (ivs .i64 (L.take i ++ L.drop (i + 1) ++ [0])) := by
   unfold Own
   rw [show (ivs .i64 (L.take i ++ L.drop (i + 1) ++ [0])).length = L.length by simp [ivs]; omega]
   exact ho
  have := own_front ho2 (m := L.length - 1) (by omega)
  rwa [show (ivs .i64 (L.take i ++ L.drop (i + 1) ++ [0])).take (L.length - 1) = ivs .i64 (L.eraseIdx i) by unfold ivs; rw [← List.map_take, cut_one L i 0 hi]] at this
theorem ieq_no {L M : List Int} {i : Nat} (h : L.getD i 0 ≠ M.getD i 0) : decide (L = M) = false := decide_eq_false fun e => h (by rw [e])
theorem ieq_yes {L M : List Int} (hl : L.length = M.length) (h : ∀ j, j < L.length → L.getD j 0 = M.getD j 0) : decide (L = M) = true := by
 refine decide_eq_true (List.ext_getElem hl fun i h1 h2 => ?_)
 have := h i h1
 rwa [List.getD_eq_getElem?_getD, List.getD_eq_getElem?_getD, List.getElem?_eq_getElem h1, List.getElem?_eq_getElem h2] at this
set_option maxRecDepth 100000 in
set_option maxHeartbeats 2000000 in
theorem ieql_any (v1 v2 : Value) (L M : List Int) (w : World) (h1 : Rd w v1 (ivs .i64 L)) (h2 : Rd w v2 (ivs .i64 M)) (hl : L.length ≤ 1000000) (hm : M.length ≤ 1000000) :
  Calls Tryz.prog 156 #[v1, v2] w fun e w' => e = .returned (.bool (decide (L = M))) ∧ ∃ n, w' = w.drewN n := by
 obtain ⟨a1, k1, rfl⟩ : ∃ a c, v1 = .slice a L.length c := by obtain ⟨a, c, e, _⟩ := h1; rw [show (ivs .i64 L).length = L.length by simp [ivs]] at e; exact ⟨a, c, e⟩
 obtain ⟨a2, k2, rfl⟩ : ∃ a c, v2 = .slice a M.length c := by obtain ⟨a, c, e, _⟩ := h2; rw [show (ivs .i64 M).length = M.length by simp [ivs]] at e; exact ⟨a, c, e⟩
 have G1 := fun (i : Nat) (hi : i < L.length) => h1.at3 (u := .int .i64 (L.getD i 0)) (r := i) (by simp [ivs, List.getD_eq_getElem?_getD, hi])
 have G2 := fun (i : Nat) (hi : i < M.length) => h2.at3 (u := .int .i64 (M.getD i 0)) (r := i) (by simp [ivs, List.getD_eq_getElem?_getD, hi])
 by_cases hlm : L.length = M.length
 ·have NO := fun (i : Nat) (h : L.getD i 0 ≠ M.getD i 0) => ieq_no h
  have YES := fun (h : ∀ j, j < L.length → L.getD j 0 = M.getD j 0) => ieq_yes hlm h
  obtain ⟨R, hR⟩ : ∃ R, R = decide (L = M) := ⟨_, rfl⟩
  rw [← hR] at NO YES ⊢
  obtain ⟨n, hn⟩ : ∃ n, n = L.length := ⟨_, rfl⟩
  rw [← hlm] at G2 ⊢
  rw [← hn] at G1 G2 hl YES ⊢
  obtain ⟨X, hX⟩ : ∃ X : Nat → Int, X = fun i => L.getD i 0 := ⟨_, rfl⟩
  obtain ⟨Y, hY⟩ : ∃ X : Nat → Int, X = fun i => M.getD i 0 := ⟨_, rfl⟩
  have hX' : ∀ i, L.getD i 0 = X i := fun i => by rw [hX]
  have hY' : ∀ i, M.getD i 0 = Y i := fun i => by rw [hY]
  simp only [hX', hY'] at G1 G2 NO YES
  have HG1 := Lib.hid G1
  have HG2 := Lib.hid G2
  have HNO := Lib.hid NO
  have HYES := Lib.hid YES
  clear G1 G2 h1 h2 hn NO YES hX hY hX' hY' hR hlm hm
  go_enter Tryz.func156, Tryz.ntmps156
  go_wp2_with fail
  go_loopg [13] n (fun q iv wr => ∃ i m : Nat, i + q = n ∧ iv = .int .i64 (i : Nat) ∧ wr = w.drewN m ∧ ∀ j, j < i → X j = Y j)
  case atStart => exact ⟨0, 0, by omega, rfl, rfl, fun j hj => by omega⟩
  case round =>
   obtain ⟨i, m, hi, rfl, rfl, hj⟩ := hrel
   have HI := Lib.hid hi
   have HJ := Lib.hid hj
   clear hj
   by_cases hlt : i < n
   ·have hlt' : decide (i < n) = true := decide_eq_true hlt
    have hltI : (i : Int) < (n : Int) := by omega
    obtain ⟨b1, o1, e1, hl1, q1⟩ := HG1.out i hlt
    obtain ⟨b2, o2, e2, hl2, q2⟩ := HG2.out i hlt
    obtain ⟨u, hu⟩ : ∃ u, u = X i := ⟨_, rfl⟩
    obtain ⟨u', hu'⟩ : ∃ u, u = Y i := ⟨_, rfl⟩
    rw [← hu] at q1
    rw [← hu'] at q2
    subst e1 e2
    have HU := Lib.hid hu
    have HU' := Lib.hid hu'
    clear hi hu hu'
    by_cases e : u = u'
    ·subst e
     go_wp2
     go_quiet (fail)
     go_wp2
     go_roundg (gk - 1)
     case measure => have := HI.out; omega
     case rel =>
      refine ⟨i + 1, _, by have := HI.out; omega, by go_num, rfl, fun j hj => ?_⟩
      by_cases e : j = i
      ·rw [e, ← HU.out]; exact HU'.out
      ·exact HJ.out j (by omega)
    ·have HN := Lib.hid (HNO.out i (by rw [← HU.out, ← HU'.out]; exact e))
     have hne : (u == u') = false := by rw [beq_eq_false_iff_ne]; exact e
     have hne2 : (u != u') = true := by rw [bne, hne]; rfl
     go_wp2
     go_quiet (fail)
     go_wp2
     go_ret
     exact ⟨by rw [HN.out]; rfl, m + nq, by simp [World.drewN, Nat.add_assoc]⟩
   ·obtain rfl : i = n := by omega
    have hlt' : decide (i < i) = false := decide_eq_false hlt
    have HY := Lib.hid (HYES.out HJ.out)
    clear hi hlt
    go_wp2_with fail
    go_ret
    exact ⟨by rw [HY.out]; rfl, _, rfl⟩
 ·have hne : decide (L = M) = false := decide_eq_false fun e => hlm (by rw [e])
  rw [hne]
  obtain ⟨n, hn⟩ : ∃ n, n = L.length := ⟨_, rfl⟩
  obtain ⟨m, hm'⟩ : ∃ n, n = M.length := ⟨_, rfl⟩
  rw [← hn, ← hm'] at hlm ⊢
  have h1 : ¬ ((n : Int) = (m : Int)) := by omega
  have h2 : ((n : Int) == (m : Int)) = false := by rw [beq_eq_false_iff_ne]; exact h1
  have h3 : ((n : Int) != (m : Int)) = true := by rw [bne, h2]; rfl
  clear G1 G2 hn hm' hne hl hm
  go_enter Tryz.func156, Tryz.ntmps156
  go_wp2_with fail
  go_ret
  exact ⟨rfl, 0, rfl⟩
end Go.Proofs.YtngealmhgkoaiaaGreat
