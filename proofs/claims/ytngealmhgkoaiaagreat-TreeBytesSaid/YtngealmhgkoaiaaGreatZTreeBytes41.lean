/- Opening an argument that is a node. -/
import Derived.Test.YtngealmhgkoaiaaGreatZTreeBytes40
import Derived.Test.YtngealmhgkoaiaaGreatZTreeBytes06
import Derived.Deep.Strs
namespace Go.Proofs.YtngealmhgkoaiaaGreat
open Go.RowKit Go.ChangeShapes Go.WideShapes Go.ChangeAt Go.Deep WireM
set_option linter.unusedVariables false
theorem trod_ints {H : Type} {enc : TypeId × Value → H} {P : Program} {w : World} {base : Nat} {spare : Nat → Bool} {held : Bool} {T E : TypeId} {k : IntKind} (hT : P.underlying T = some (.slice E)) (hE : P.underlying E = some (.int k)) (hc : P.cellsOf E = 1) {v : Value} {fuel : Nat} {x : DataW H × List MemPlace}
    (h : DataW.trod enc P w base spare held fuel T [v] = some x) : ∃ zs : List Int, (∀ n ∈ zs, (Lit.int k n).wf = true) ∧ Rd w v (ivs k zs) := by
  rcases open_ints hT hE hc h with ⟨hcs, _⟩ | ⟨x, l, c, zs, hcs, _, hl, hm, hz, _, hcell, hwz⟩
  · simp only [List.cons.injEq, and_true] at hcs
    subst hcs
    exact ⟨[], by simp, none, 0, rfl, Nat.le_refl _, Nat.zero_le _, .inl ⟨rfl, fun _ => rfl⟩⟩
  · simp only [List.cons.injEq, and_true] at hcs
    subst hcs
    have hz' : l ≤ zs.length := by rw [hz]; split <;> omega
    have hlen : (ivs k (zs.take l)).length = l := by simp [ivs]; omega
    refine ⟨zs.take l, fun n hn => hwz n (List.mem_of_mem_take hn), some x, c, by rw [hlen], by rw [hlen]; exact hl, hm, ?_⟩
    by_cases h0 : l = 0
    · left; subst h0; simp [ivs]
    · right
      obtain ⟨b, off, spot⟩ := x
      have hc0 := hcell 0 (by omega)
      have hspot : spot = none := by simpa [Addr.add] using World.cell?_spot hc0
      subst hspot
      refine ⟨b, off, rfl, ?_⟩
      intro j u hu
      have hj : j < l := by
        rcases Nat.lt_or_ge j l with h | h
        · exact h
        · rw [List.getElem?_eq_none (by rw [hlen]; exact h)] at hu; cases hu
      have := hcell j (by omega)
      rw [Addr.add_lit] at this
      rw [this, ← hu]
      simp [ivs, hj, show j < zs.length from by omega]
theorem c5 : Tryz.prog.cellsOf 5 = 1 := by kernel_rfl
theorem c22 : Tryz.prog.cellsOf 25 = 1 := by kernel_rfl
theorem c30 : Tryz.prog.cellsOf 50 = 1 := by kernel_rfl
theorem c53 : Tryz.prog.cellsOf 49 = 6 := by kernel_rfl
theorem c55 : Tryz.prog.cellsOf 52 = 3 := by kernel_rfl
theorem c57 : Tryz.prog.cellsOf 54 = 10 := by kernel_rfl
set_option maxRecDepth 100000 in
theorem open_node {H : Type} {enc : TypeId × Value → H} {W : World} {v : Value} {d : DataW H} {p : List MemPlace} {base : Nat}
    (ok : Value.okWide Tryz.prog W .any base 54 v) (h : DataW.Trod enc Tryz.prog W 0 (fun _ => true) true 54 v d p) : ∃ D : NodeD, ∃ c, v = .agg c ∧ NodeC W D c ∧ NodeOk D := by
  obtain ⟨cs, rfl, hsz⟩ := okWide_struct Tryz.underlying54 ok
  obtain ⟨fuel, hf⟩ := h
  rw [c57] at hsz
  obtain ⟨cs⟩ := cs
  match cs, hsz with
  | [x0, x1, x2, x3, x4, x5, x6, x7, x8, x9], _ =>
    simp only [Value.cells] at hf
    obtain ⟨y0, y1, y2, n, _, _, t0, t1, t2⟩ := trod_struct3 Tryz.underlying54 hf
    simp only [c5, c53, c55, List.drop_zero, List.drop_succ_cons, List.take_succ_cons, List.take_zero] at t0 t1 t2
    obtain ⟨k, e0, _, w0⟩ := DataW.trod_int Tryz.underlying5 t0
    obtain ⟨xs, n1, _, _, _, hlen, hl⟩ := DataW.trod_struct Tryz.underlying49 t1
    match xs, hlen with
    | [z0, z1, z2, z3, z4, z5], _ =>
      have u0 := hl 0 _ rfl
      have u1 := hl 1 _ rfl
      have u2 := hl 2 _ rfl
      have u3 := hl 3 _ rfl
      have u4 := hl 4 _ rfl
      have u5 := hl 5 _ rfl
      simp only [List.getElem_toArray, List.getElem_cons_zero, List.getElem_cons_succ, c5, c22, List.drop_zero, List.drop_succ_cons, List.take_succ_cons, List.take_zero, List.getElem?_cons_zero, List.getElem?_cons_succ] at u0 u1 u2 u3 u4 u5
      obtain ⟨p0, p1, p2, n2, _, _, s0, s1, s2⟩ := trod_struct3 Tryz.underlying52 t2
      simp only [c22, c30, List.drop_zero, List.drop_succ_cons, List.take_succ_cons, List.take_zero] at s0 s1 s2
      obtain ⟨L0, h0, r0⟩ := trod_bytes Tryz.underlying25 Tryz.underlying5 (by kernel_rfl) u0
      obtain ⟨L1, h1, r1⟩ := trod_bytes Tryz.underlying25 Tryz.underlying5 (by kernel_rfl) u1
      obtain ⟨L2, h2, r2⟩ := trod_bytes Tryz.underlying25 Tryz.underlying5 (by kernel_rfl) u2
      obtain ⟨sr, e3, _, w3⟩ := DataW.trod_int Tryz.underlying5 u3
      obtain ⟨L4, h4, r4⟩ := trod_bytes Tryz.underlying25 Tryz.underlying5 (by kernel_rfl) u4
      obtain ⟨L5, h5, r5⟩ := trod_bytes Tryz.underlying25 Tryz.underlying5 (by kernel_rfl) u5
      obtain ⟨M0, g0, q0⟩ := trod_bytes Tryz.underlying25 Tryz.underlying5 (by kernel_rfl) s0
      obtain ⟨M1, g1, q1⟩ := trod_bytes Tryz.underlying25 Tryz.underlying5 (by kernel_rfl) s1
      obtain ⟨M2, g2, q2⟩ := trod_ints Tryz.underlying50 Tryz.underlying3 (by kernel_rfl) s2
      simp only [List.cons.injEq, and_true] at e0 e3
      subst e0 e3
      obtain ⟨kd, hkd, rfl⟩ := nat_u8 w0
      obtain ⟨src, hsrc, rfl⟩ := nat_u8 w3
      obtain ⟨a0, c0, rfl, -⟩ := id r0
      obtain ⟨a1, c1, rfl, -⟩ := id r1
      obtain ⟨a2, c2, rfl, -⟩ := id r2
      obtain ⟨a4, c4, rfl, -⟩ := id r4
      obtain ⟨a5, c5, rfl, -⟩ := id r5
      obtain ⟨b0, d0, rfl, -⟩ := id q0
      obtain ⟨b1, d1, rfl, -⟩ := id q1
      obtain ⟨b2, d2, rfl, -⟩ := id q2
      have e9 : (ivs .i64 M2).length = M2.length := by simp [ivs]
      simp only [bvs_len, e9] at r0 r1 r2 r4 r5 q0 q1 q2 ⊢
      exact ⟨⟨kd, ⟨L0, L1, L2, src, L4, L5⟩, ⟨M0, M1, M2⟩⟩, _, rfl, ⟨a0, c0, a1, c1, a2, c2, a4, c4, a5, c5, b0, d0, b1, d1, b2, d2, rfl, r0, r1, r2, r4, r5, q0, q1, q2⟩,
        ⟨hkd, hsrc, h0, h1, h2, h4, h5, g0, g1, fun z hz => bd_i64 (g2 z hz)⟩⟩
end Go.Proofs.YtngealmhgkoaiaaGreat
