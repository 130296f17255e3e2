/- Walks: slices.Chunk and its iterator. -/
import Derived.RangeFuncNested
import Derived.RangeFuncBound
import Derived.RangeFuncCalls
import Derived.RangeFuncLeaves
import Derived.Shelf.Abstract
import Derived.Shelf.RegionOpen
import Derived.WalkKit
import Derived.OwnWalkIn
import Derived.TacticsInMore
import Derived.LoopNIn
import Derived.LoopIn
import Derived.Test.YtfpjpakjlhidkaaMemK
import Derived.Test.YtfpjpakjlhidkaaProg
import Derived.Lib.Hide
import Derived.BigRegion
namespace Go.Proofs.Ytfpjpakjlhidkaa
open Go.RowKit Go.Shelf
attribute [local go_sem] Oper.semAt_some
set_option linter.unusedVariables false
/-- a place within a length -/
abbrev Off (len : Nat) := { p : Nat // p < len }
/-- the part that begins at a place -/
def encC (b off len : Nat) (x : Off len) : Array Value := #[.slice (some ⟨b, off + x.1, none⟩) (min 16 (len - x.1)) (min 16 (len - x.1))]
def KpB (Bs : Nat) (W W' : World) : Prop := W'.heap[Bs]? = W.heap[Bs]? ∧ W'.heap[Bs + 1]? = W.heap[Bs + 1]?
theorem kpB_t {Bs : Nat} {A B C : World} (h : KpB Bs A B) (k : KpB Bs B C) : KpB Bs A C := ⟨k.1.trans h.1, k.2.trans h.2⟩
theorem kpB_b {Bs : Nat} {w : World} (hn : Bs + 2 ≤ w.heap.size) (W : World) (l : Nat) (o o' : Obj) (hl : w.heap.size ≤ l) (h : W.heap[l]? = some o) (_ : o.isCells = false) (_ : o.isWalk = false) : KpB Bs W (W.putObj l o') := by
  have hg := (Below.refl (Bs + 2) W).grown (grownBy_putObj' W l o') (by have := (Array.getElem?_eq_some_iff.1 h).1; omega) (fun k e => by cases e; omega)
  exact ⟨hg.block Bs (by omega), hg.block (Bs + 1) (by omega)⟩
set_option maxRecDepth 100000 in
set_option maxHeartbeats 4000000 in
theorem chunk1_in (n : Nat) (a : Option Addr) (l Bs b off len cap : Nat) (ha : 0 < len → a = some ⟨b, off, none⟩) (hlc : len ≤ cap) (hcm : cap ≤ maxLen) (hll : len ≤ 1000000) (J Jx : List (Off len) → World → Prop)
    (hY : ∀ pre x W, J pre W → pre.length < (len + 15) / 16 → YieldAt Fence.wide (n - 1) Try.prog l (encC b off len x) W fun e W' =>
      (e = .returned (.bool true) ∧ J (pre ++ [x]) W' ∧ KpB Bs W W') ∨ (e = .returned (.bool false) ∧ Jx (pre ++ [x]) W'))
    (hJd : ∀ pre W, J pre W → J pre W.drew)
    (W : World) (hB1 : Blk W Bs 28 #[.slice a len cap]) (hB2 : Blk W (Bs + 1) 3 #[.int .i64 16]) (h0 : J [] W) :
    CallsIn Fence.wide n Try.prog 48 #[.func (.yield l) #[] #[], .pointer (some ⟨Bs, 0, none⟩), .pointer (some ⟨Bs + 1, 0, none⟩)] W fun e W' => (∃ v, e = .returned v) ∧
      ((∃ ys : List (Off len), ys.map (·.1) = (List.range ((len + 15) / 16)).map (16 * ·) ∧ J ys W') ∨ (∃ pre, True ∧ Jx pre W')) := by
  have hcm' : cap ≤ 9223372036854775807 := by unfold maxLen at hcm; omega
  clear hcm
  refine callsIn_of_wp Try.func48 rfl trivial ?_ rfl
  simp only [Try.ntmps48, List.size_toArray, List.length_cons, List.length_nil, Nat.reduceAdd, Nat.reduceSub, Array.replicate_succ, Array.replicate_zero, List.push_toArray, List.append_toArray, List.nil_append, List.cons_append]
  gi_wp2
  gi_loopw [4] (fun iv wr => ∃ (k p : Nat) (pre : List (Off len)), p = 16 * k ∧ k ≤ (len + 15) / 16 ∧ iv = .int .i64 (p : Nat) ∧ pre.map (·.1) = (List.range k).map (16 * ·) ∧ J pre wr ∧ Blk wr Bs 28 #[.slice a len cap] ∧ Blk wr (Bs + 1) 3 #[.int .i64 16])
    (fun i _ => len + 16 - (intOf i).toNat)
  case atStart => exact ⟨0, 0, [], rfl, by omega, rfl, rfl, h0, hB1, hB2⟩
  case round =>
    obtain ⟨k, p, pre, hp, hk, rfl, hpre, hJs, b1, b2⟩ := hrel
    have c1 := b1.cell 0
    have c2 := b2.cell 0
    simp only [List.getElem?_toArray, List.getElem?_cons_zero] at c1 c2
    have hlen : pre.length = k := by
      have := congrArg List.length hpre
      simpa using this
    have HB1 := Lib.hid b1
    have HB2 := Lib.hid b2
    have HP := Lib.hid hp
    have HPRE := Lib.hid hpre
    have HLEN := Lib.hid hlen
    have HKL := Lib.hid hk
    by_cases hlt : p < len
    · obtain rfl := ha (by omega)
      obtain ⟨m, hm⟩ : ∃ m, m = min 16 (len - p) := ⟨_, rfl⟩
      obtain ⟨fn, tmps, assign, body, hy, hR⟩ := hY pre ⟨p, hlt⟩ wr.drew (hJd _ _ hJs) (by omega)
      dsimp only [encC] at hy
      rw [← hm] at hy
      have hlt' : decide ((p : Int) < (len : Int)) = true := by rw [decide_eq_true_iff]; omega
      have hmin : (if ((len - p : Nat) : Int) < 16 then ((len - p : Nat) : Int) else 16) = (m : Int) := by split <;> omega
      have hm16 : m ≤ 16 := by omega
      have hmp : m ≤ len - p := by omega
      have hm0 : 0 < m := by omega
      have HM := Lib.hid hm
      clear hm hp hpre hlen hk b1 b2 hJs
      gi_wp2
      refine wpIn_wide.2 ?_
      go_region
      gi_wp2
      refine ⟨fun hd => (by cases hd), hR.mono ?_⟩
      rintro e W3 (⟨rfl, hJ3, hk3⟩ | ⟨rfl, hJx3⟩)
      · have b1' : Blk W3 Bs 28 #[.slice (some ⟨b, off, none⟩) len cap] := hk3.1.trans HB1.out
        have b2' : Blk W3 (Bs + 1) 3 #[.int .i64 16] := hk3.2.trans HB2.out
        have d2 := b2'.cell 0
        simp only [List.getElem?_toArray, List.getElem?_cons_zero] at d2
        have HB1' := Lib.hid b1'
        have HB2' := Lib.hid b2'
        clear b1' b2'
        gi_wp2
        go_roundw
        case rel =>
          refine ⟨k + 1, p + 16, pre ++ [⟨p, hlt⟩], by have := HP.out; omega, by have := HP.out; omega, by go_num, ?_, hJ3, HB1'.out, HB2'.out⟩
          rw [List.map_append, HPRE.out, List.range_succ, List.map_append]
          simp [HP.out]
        case measure => simp [intOf]; omega
      · gi_wp2
        refine bodyPost_ret (results_none rfl _ _ _) rfl ?_
        exact ⟨⟨_, rfl⟩, .inr ⟨pre ++ [⟨p, hlt⟩], trivial, hJx3⟩⟩
    · have hlt' : decide ((p : Int) < (len : Int)) = false := by rw [decide_eq_false_iff_not]; omega
      clear hp hpre hlen hk b1 b2
      gi_wp2
      go_end0
      refine ⟨⟨_, rfl⟩, .inl ⟨pre, ?_, hJs⟩⟩
      rw [HPRE.out]
      congr 2
      have := HP.out; have := HKL.out; omega
theorem chunk_any (a : Option Addr) (len cap : Nat) (w : World) :
    Calls Try.prog 46 #[.slice a len cap, .int .i64 16] w fun e w' => e = .returned (.func (.func 48) #[] #[.pointer (some ⟨w.heap.size, 0, none⟩), .pointer (some ⟨w.heap.size + 1, 0, none⟩)]) ∧ w' = (w.alloc (.cells #[.slice a len cap] 28)).alloc (.cells #[.int .i64 16] 3) := by
  go_enter Try.func46, Try.ntmps46
  go_wp2
  go_ret
  exact ⟨rfl, rfl⟩
theorem abides_drew {α : Type} {B : Nat} {J : List α → World → Prop} (h : AbidesFrom B J) (pre : List α) (W : World) (hj : J pre W) : J pre W.drew :=
  h pre W W.drew none hj ⟨rfl, rfl, rfl, Nat.le_refl _, fun _ _ _ => rfl⟩ (fun r e => by cases e)
/-- slices.Chunk(s, 16) hands back an iterator that stops: over whatever slice. -/
theorem chunk_stops (n : Nat) (a : Option Addr) (Bs b off len cap : Nat) (ha : 0 < len → a = some ⟨b, off, none⟩) (hlc : len ≤ cap) (hcm : cap ≤ maxLen) (hll : len ≤ 1000000) (w : World) (hB1 : Blk w Bs 28 #[.slice a len cap]) (hB2 : Blk w (Bs + 1) 3 #[.int .i64 16]) :
    SeqStopsK Fence.wide n Try.prog 48 #[.pointer (some ⟨Bs, 0, none⟩), .pointer (some ⟨Bs + 1, 0, none⟩)] (encC b off len) (KpB Bs) (fun ys => ys.map (·.1) = (List.range ((len + 15) / 16)).map (16 * ·)) (fun _ => True) ((len + 15) / 16) w :=
  fun l J Jx W hW hJ hJx hY h0 => chunk1_in n a l Bs b off len cap ha hlc hcm hll J Jx hY (abides_drew hJ) W (hB1.below hW hB1.lt) (hB2.below hW hB2.lt) h0
end Go.Proofs.Ytfpjpakjlhidkaa
