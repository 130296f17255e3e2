/- Slices as they come in. -/
import Derived.Test.YtngealmhgkoaiaaGreatZSliceCutsB
import Derived.Test.YtngealmhgkoaiaaGreatZSliceCuts06
import Derived.Deep.Slices
import Derived.Deep.Fields
import Derived.ChangeSame
import Derived.Test.YtngealmhgkoaiaaGreatZSliceCuts07
import Derived.Deep.Strs
import Derived.Test.YtngealmhgkoaiaaGreatZSliceCuts16
open List renaming mem_of_mem_take → fG, getElem?_eq_none → aK, drop_zero → fH, drop_succ_cons → fI, take_succ_cons → fJ, take_zero → fK, getElem?_eq_getElem → aI
set_option linter.unusedVariables false
set_option maxRecDepth 100000
set_option maxHeartbeats 40000000
namespace Go.Proofs.YtngealmhgkoaiaaGreat
open Go.RowKit WireM Go.ChangeShapes Go.WideShapes Go.Deep
section
section
variable {H : Type} {enc : TypeId × Value → H} {P : Program} {w : World} {base : Nat} {spare : Nat → Bool} {held : Bool}
theorem Dw {T E : TypeId} (hT : P.underlying T = some (.slice E)) (hE : P.underlying E = some (.int .u8)) (hc : P.cellsOf E = 1) {v : Value} {fuel : Nat} {x : DataW H × List MemPlace}
  (h : DataW.trod enc P w base spare held fuel T [v] = some x) : ∃ L : List Nat, (∀ n ∈ L, n < 256) ∧ Rd w v (bvs L) := by
 rcases open_ints hT hE hc h with ⟨hcs, _⟩ | ⟨a, l, c, zs, hcs, _, hl, hm, hz, _, hcell, hwz⟩
 ·simp only [List.cons.injEq, and_true] at hcs; subst hcs; exact ⟨[], by simp, none, 0, rfl, lR, Nat.zero_le _, .inl ⟨rfl, fun _ => rfl⟩⟩
 ·simp only [List.cons.injEq, and_true] at hcs; subst hcs; have hz' : l ≤ zs.length := (by rw [hz]; split <;> omega); have hlen : (bvs ((zs.take l).map Int.toNat)).length = l := (by simp [bvs]; omega); refine ⟨(zs.take l).map Int.toNat, ?_, some a, c, by rw [hlen], by rw [hlen]; exact hl, hm, ?_⟩
  ·intro n hn; obtain ⟨z, hz1, rfl⟩ := List.mem_map.1 hn; obtain ⟨n, hn, rfl⟩ := Uf (hwz z (fG hz1)); omega
  ·by_cases h0 : l = 0
   ·left; subst h0; simp [bvs]
   ·right
    obtain ⟨b, off, spot⟩ := a; have hc0 := hcell 0 (by omega); have hspot : spot = none := (by simpa [Addr.add] using World.cell?_spot hc0); subst hspot; refine ⟨b, off, rfl, ?_⟩; intro j u hu; have hj : j < l := by
     rcases Nat.lt_or_ge j l with h | h
     ·exact h
     ·rw [aK (by rw [hlen]; exact h)] at hu; cases hu
    have h5 := hcell j (by omega); rw [Addr.add_lit] at h5; have hjz : j < zs.length := (by omega); obtain ⟨n, hn, hn2⟩ := Uf (hwz zs[j] (List.getElem_mem hjz)); rw [h5, ← hu]; simp [bvs, hj, hjz, hn2]
end
theorem Zfj {α : Type} (Q : Nat → α → Prop) : ∀ n, (∀ i, i < n → ∃ x, Q i x) → ∃ L : List α, L.length = n ∧ ∀ i (hi : i < L.length), Q i L[i] := by
 intro n
 induction n with
 | zero => intro _; exact ⟨[], rfl, by intro i hi; simp at hi⟩
 | succ n ih =>
  intro h; obtain ⟨L, h1, h2⟩ := ih fun i hi => h i (by omega); obtain ⟨x, hx⟩ := h n (by omega); refine ⟨L ++ [x], by simp [h1], ?_⟩; intro i hi
  by_cases e : i < n
  ·rw [List.getElem_append_left (by omega)]; exact h2 i (by omega)
  ·have : i = n := (by simp at hi; omega); subst this; rw [List.getElem_append_right (by omega)]; simpa [h1] using hx
end
end Go.Proofs.YtngealmhgkoaiaaGreat
namespace Go.Proofs.YtngealmhgkoaiaaGreat
open Go.RowKit Go.ChangeShapes Go.WideShapes Go.ChangeAt Go.Deep WireM
theorem Zaq {H : Type} {enc : TypeId × Value → H} {P : Program} {w : World} {base : Nat} {spare : Nat → Bool} {held : Bool} {T E : TypeId} {k : IntKind} (hT : P.underlying T = some (.slice E)) (hE : P.underlying E = some (.int k)) (hc : P.cellsOf E = 1) {v : Value} {fuel : Nat} {x : DataW H × List MemPlace}
  (h : DataW.trod enc P w base spare held fuel T [v] = some x) : ∃ zs : List Int, (∀ n ∈ zs, (Lit.int k n).wf = true) ∧ Rd w v (ivs k zs) := by
 rcases open_ints hT hE hc h with ⟨hcs, _⟩ | ⟨x, l, c, zs, hcs, _, hl, hm, hz, _, hcell, hwz⟩
 ·simp only [List.cons.injEq, and_true] at hcs; subst hcs; exact ⟨[], by simp, none, 0, rfl, lR, Nat.zero_le _, .inl ⟨rfl, fun _ => rfl⟩⟩
 ·simp only [List.cons.injEq, and_true] at hcs; subst hcs; have hz' : l ≤ zs.length := (by rw [hz]; split <;> omega); have hlen : (ivs k (zs.take l)).length = l := (by simp [ivs]; omega); refine ⟨zs.take l, fun n hn => hwz n (fG hn), some x, c, by rw [hlen], by rw [hlen]; exact hl, hm, ?_⟩
  by_cases h0 : l = 0
  ·left; subst h0; simp [ivs]
  ·right
   obtain ⟨b, off, spot⟩ := x; have hc0 := hcell 0 (by omega); have hspot : spot = none := (by simpa [Addr.add] using World.cell?_spot hc0); subst hspot; refine ⟨b, off, rfl, ?_⟩; intro j u hu; have hj : j < l := by
    rcases Nat.lt_or_ge j l with h | h
    ·exact h
    ·rw [aK (by rw [hlen]; exact h)] at hu; cases hu
   have := hcell j (by omega); rw [Addr.add_lit] at this; rw [this, ← hu]; simp [ivs, hj, show j < zs.length from by omega]
theorem c5 : Tryz.prog.cellsOf 5 = 1 := by kernel_rfl
theorem c22 : Tryz.prog.cellsOf 25 = 1 := by kernel_rfl
theorem c30 : Tryz.prog.cellsOf 50 = 1 := by kernel_rfl
theorem c53 : Tryz.prog.cellsOf 49 = 6 := by kernel_rfl
theorem c55 : Tryz.prog.cellsOf 52 = 3 := by kernel_rfl
theorem c57 : Tryz.prog.cellsOf 54 = 10 := by kernel_rfl
theorem Zar {H : Type} {enc : TypeId × Value → H} {W : World} {base : Nat} {spare : Nat → Bool} {held : Bool} {fuel : Nat} {cs : List Value} {y : DataW H × List MemPlace} (hsz : cs.length = 10)
  (hf : DataW.trod enc Tryz.prog W base spare held fuel 54 cs = some y) : ∃ D : NodeD, NodeC W D cs.toArray ∧ NodeOk D := by
 match cs, hsz with
 | [x0, x1, x2, x3, x4, x5, x6, x7, x8, x9], _ =>
  obtain ⟨y0, y1, y2, n, _, _, t0, t1, t2⟩ := trod_struct3 Tryz.underlying54 hf; simp only [c5, c53, c55, fH, fI, fJ, fK] at t0 t1 t2; obtain ⟨k, e0, _, w0⟩ := DataW.trod_int Tryz.underlying5 t0; obtain ⟨xs, n1, _, _, _, hlen, hl⟩ := DataW.trod_struct Tryz.underlying49 t1
  match xs, hlen with
  | [z0, z1, z2, z3, z4, z5], _ =>
   have u0 := hl 0 _ rfl; have u1 := hl 1 _ rfl; have u2 := hl 2 _ rfl; have u3 := hl 3 _ rfl; have u4 := hl 4 _ rfl; have u5 := hl 5 _ rfl; simp only [List.getElem_toArray, List.getElem_cons_zero, List.getElem_cons_succ, c5, c22, fH, fI, fJ, fK, List.getElem?_cons_zero, List.getElem?_cons_succ] at u0 u1 u2 u3 u4 u5; obtain ⟨p0, p1, p2, n2, _, _, s0, s1, s2⟩ := trod_struct3 Tryz.underlying52 t2; simp only [c22, c30, fH, fI, fJ, fK] at s0 s1 s2; obtain ⟨L0, h0, r0⟩ := Dw Tryz.underlying25 Tryz.underlying5 (by kernel_rfl) u0; obtain ⟨L1, h1, r1⟩ := Dw Tryz.underlying25 Tryz.underlying5 (by kernel_rfl) u1; obtain ⟨L2, h2, r2⟩ := Dw Tryz.underlying25 Tryz.underlying5 (by kernel_rfl) u2; obtain ⟨sr, e3, _, w3⟩ := DataW.trod_int Tryz.underlying5 u3; obtain ⟨L4, h4, r4⟩ := Dw Tryz.underlying25 Tryz.underlying5 (by kernel_rfl) u4; obtain ⟨L5, h5, r5⟩ := Dw Tryz.underlying25 Tryz.underlying5 (by kernel_rfl) u5; obtain ⟨M0, g0, q0⟩ := Dw Tryz.underlying25 Tryz.underlying5 (by kernel_rfl) s0; obtain ⟨M1, g1, q1⟩ := Dw Tryz.underlying25 Tryz.underlying5 (by kernel_rfl) s1; obtain ⟨M2, g2, q2⟩ := Zaq Tryz.underlying50 Tryz.underlying3 (by kernel_rfl) s2; simp only [List.cons.injEq, and_true] at e0 e3; subst e0 e3; obtain ⟨kd, hkd, rfl⟩ := Uf w0; obtain ⟨src, hsrc, rfl⟩ := Uf w3; obtain ⟨a0, c0, rfl, -⟩ := id r0; obtain ⟨a1, c1, rfl, -⟩ := id r1; obtain ⟨a2, c2, rfl, -⟩ := id r2; obtain ⟨a4, c4, rfl, -⟩ := id r4; obtain ⟨a5, c5, rfl, -⟩ := id r5; obtain ⟨b0, d0, rfl, -⟩ := id q0; obtain ⟨b1, d1, rfl, -⟩ := id q1; obtain ⟨b2, d2, rfl, -⟩ := id q2; have e9 : (ivs .i64 M2).length = M2.length := (by simp [ivs]); simp only [bvs_len, e9] at r0 r1 r2 r4 r5 q0 q1 q2 ⊢; exact ⟨⟨kd, ⟨L0, L1, L2, src, L4, L5⟩, ⟨M0, M1, M2⟩⟩, ⟨a0, c0, a1, c1, a2, c2, a4, c4, a5, c5, b0, d0, b1, d1, b2, d2, rfl, r0, r1, r2, r4, r5, q0, q1, q2⟩,
    ⟨hkd, hsrc, h0, h1, h2, h4, h5, g0, g1, fun z hz => Zea (g2 z hz)⟩⟩
theorem Xa {H : Type} {enc : TypeId × Value → H} {W : World} {v : Value} {d : DataW H} {p : List MemPlace} {base : Nat}
  (ok : Value.okWide Tryz.prog W .any base 22 v) (h : DataW.Trod enc Tryz.prog W 0 (fun _ => true) true 22 v d p) : ∃ t : List NodeD, TreeR W v t ∧ TreeOk t := by
 obtain ⟨a0, len0, cap0, rfl⟩ := okWide_slice Tryz.underlying22 ok; obtain ⟨fuel, hf⟩ := h; rcases open_slice Tryz.underlying22 hf with ⟨hcs, _⟩ | ⟨a, len, cap, m, n, D, Pl, hcs, hb, hl, hm, hmm, hx, hi⟩
 ·simp [Value.cells] at hcs; obtain ⟨rfl, rfl, rfl⟩ := hcs; exact ⟨[], TreeR.nil _, fun d hd => by cases hd⟩
 ·simp [Value.cells] at hcs; obtain ⟨rfl, rfl, rfl⟩ := hcs; have hlm : len0 ≤ m := (by rw [hmm]; split <;> omega); have key : ∀ i, i < len0 → ∃ D : NodeD, NodeOk D ∧ ∃ b off c, some a = some ⟨b, off, none⟩ ∧ b < W.heap.size ∧ NodeC W D c ∧ W.rangeAt b (off + i * 10) c.toList := by
   intro i hil; obtain ⟨cs', hc', ht'⟩ := hi i (by omega); rw [c57] at hc'; obtain ⟨_, hcl, hat⟩ := World.cells?_some hc'; obtain ⟨D, hD, hok⟩ := Zar hcl ht'; obtain ⟨b, off, spot⟩ := a; have hz := hat 0 (by omega); have h0 : cs'[0]? = some (cs'[0]'(by omega)) := aI (by omega); rw [h0] at hz; have hspot : spot = none := by
    obtain ⟨cs0, hc0, _⟩ := hi 0 (by omega); rw [c57] at hc0; obtain ⟨_, hcl0, hat0⟩ := World.cells?_some hc0; have hz0 := hat0 0 (by omega); rw [aI (show 0 < cs0.length by omega)] at hz0; simpa [Addr.add] using World.cell?_spot hz0
   subst hspot; refine ⟨D, hok, b, off, cs'.toArray, rfl, ?_, hD, ?_⟩
   ·rw [Addr.add_lit, Addr.add_lit] at hz; exact World.block_lt_of_cell? W _ hz
   ·intro j u hu; have hj : j < 10 := by
     rcases Nat.lt_or_ge j cs'.length with h | h
     ·omega
     ·rw [aK h] at hu; cases hu
    have := hat j hj; rw [Addr.add_lit, Addr.add_lit] at this; rw [this]; exact hu
  obtain ⟨ds, h1, h2⟩ := Zfj _ len0 key; have hnd : ∀ i (hi : i < ds.length), nd ds i = ds[i] := fun i hi => (by rw [nd, List.getD_eq_getElem?_getD, aI hi]; rfl); refine ⟨ds, ⟨some a, cap0, by rw [h1], by omega, hm, ?_⟩, ?_⟩
  ·intro i hi; rw [hnd i hi]; exact (h2 i hi).2
  ·intro x hx; obtain ⟨i, hi, rfl⟩ := List.getElem_of_mem hx; exact (h2 i hi).1
end Go.Proofs.YtngealmhgkoaiaaGreat
