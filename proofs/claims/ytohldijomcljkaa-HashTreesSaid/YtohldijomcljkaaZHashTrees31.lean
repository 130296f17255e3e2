/- Walks: node.Copy. -/
import Derived.Test.YtohldijomcljkaaZHashTrees30
import Derived.Test.YtohldijomcljkaaZHashTrees23
import Derived.Test.YtohldijomcljkaaZHashTrees27
import Derived.Deep.MidRow
import Derived.Test.YtohldijomcljkaaZHashTrees13
namespace Go.Proofs.Ytohldijomcljkaa
open Go.RowKit WireM
set_option linter.unusedVariables false
theorem Own.onlyG {w w' : World} {B g : Nat} {e : TypeId} {v : Value} {xs : List Value} (h : Own w B e v xs) (ho : OnlyG g w w') (hg : g < B) : Own w' B e v xs := by
  obtain ⟨h1, h2 | ⟨g', cp, cur, e', hb, hh, rest⟩⟩ := h
  · exact ⟨h1, .inl h2⟩
  · refine ⟨h1, .inr ⟨g', cp, cur, e', hb, ?_, rest⟩⟩
    have hl : g' < w.heap.size := by
      rcases Nat.lt_or_ge g' w.heap.size with h | h
      · exact h
      · rw [Array.getElem?_eq_none h] at hh; cases hh
    rw [ho.2.2 g' hl (by omega)]
    exact hh
theorem onlyG_setCells (g : Nat) : ∀ (vs : List Value) (o : Nat) (w : World), OnlyG g w (w.setCells g o vs)
  | [], o, w => ⟨Below.refl _ _, Nat.le_refl _, fun _ _ _ => rfl⟩
  | v :: vs, o, w => by
    rw [World.setCells]
    exact (OnlyG.setCell o v).trans (onlyG_setCells g vs (o + 1) _)
theorem Own.setLow {w : World} {B : Nat} {e : TypeId} {v : Value} {xs : List Value} (h : Own w B e v xs) {p : Addr} (hp : p.block < B) (u : Value) : Own (w.setCell p u) B e v xs := by
  refine h.setOther (fun hv => ?_) u
  rcases h.2 with ⟨rfl, _⟩ | ⟨g, cp, cur, rfl, hg, _⟩
  · simp [Value.ownBlock] at hv
  · simp [Value.ownBlock] at hv; omega
theorem Blk.there {w : World} {g : Nat} {t : TypeId} {cs : Array Value} (h : Blk w g t cs) (o n : Nat) (hn : o + n ≤ cs.size) : w.there g o n := by
  intro j hj
  refine ⟨?_, h.frozen _⟩
  rw [h.cell, Array.getElem?_eq_getElem (by omega)]
  rfl
/-- the ten cells of a node in new memory -/
def NodeO (w : World) (B : Nat) (d : NodeD) (c : Array Value) : Prop :=
  ∃ x0 x1 x2 x3 x4 u0 u1 u2, c = #[.int .u8 (d.kind : Nat), x0, x1, x2, .int .u8 (d.leaf.source : Nat), x3, x4, u0, u1, u2] ∧
    Own w B 5 x0 (bvs d.leaf.box) ∧ Own w B 5 x1 (bvs d.leaf.sign) ∧ Own w B 5 x2 (bvs d.leaf.ident) ∧ Own w B 5 x3 (bvs d.leaf.par) ∧ Own w B 5 x4 (bvs d.leaf.sig) ∧
    Own w B 5 u0 (bvs d.par.box) ∧ Own w B 5 u1 (bvs d.par.hash) ∧ Own w B 3 u2 (ivs .i64 d.par.late)
theorem NodeO.below {w w' : World} {B B' : Nat} {d : NodeD} {c : Array Value} (h : NodeO w B d c) (hb : Below B' w w') (hB : w.heap.size ≤ B') : NodeO w' B d c := by
  obtain ⟨x0, x1, x2, x3, x4, u0, u1, u2, rfl, h0, h1, h2, h3, h4, h5, h6, h7⟩ := h
  exact ⟨x0, x1, x2, x3, x4, u0, u1, u2, rfl, h0.below hb hB, h1.below hb hB, h2.below hb hB, h3.below hb hB, h4.below hb hB, h5.below hb hB, h6.below hb hB, h7.below hb hB⟩
theorem NodeO.mono {w : World} {B B' : Nat} {d : NodeD} {c : Array Value} (h : NodeO w B d c) (hB : B' ≤ B) : NodeO w B' d c := by
  obtain ⟨x0, x1, x2, x3, x4, u0, u1, u2, rfl, h0, h1, h2, h3, h4, h5, h6, h7⟩ := h
  exact ⟨x0, x1, x2, x3, x4, u0, u1, u2, rfl, h0.mono hB, h1.mono hB, h2.mono hB, h3.mono hB, h4.mono hB, h5.mono hB, h6.mono hB, h7.mono hB⟩
theorem NodeO.c {w : World} {B : Nat} {d : NodeD} {c : Array Value} (h : NodeO w B d c) : NodeC w d c := by
  obtain ⟨x0, x1, x2, x3, x4, u0, u1, u2, rfl, h0, h1, h2, h3, h4, h5, h6, h7⟩ := h
  have g : ∀ {v : Value} {e : TypeId} {xs : List Value}, Own w B e v xs → ∃ a c, v = .slice a xs.length c := fun h => by obtain ⟨a, c, e, _⟩ := h.rd; exact ⟨a, c, e⟩
  obtain ⟨a0, c0, rfl⟩ := g h0
  obtain ⟨a1, c1, rfl⟩ := g h1
  obtain ⟨a2, c2, rfl⟩ := g h2
  obtain ⟨a3, c3, rfl⟩ := g h3
  obtain ⟨a4, c4, rfl⟩ := g h4
  obtain ⟨a5, c5, rfl⟩ := g h5
  obtain ⟨a6, c6, rfl⟩ := g h6
  obtain ⟨a7, c7, rfl⟩ := g h7
  have e7 : (ivs .i64 d.par.late).length = d.par.late.length := ivs_len' _ _
  simp only [bvs_len, e7] at h0 h1 h2 h3 h4 h5 h6 h7 ⊢
  exact ⟨a0, c0, a1, c1, a2, c2, a3, c3, a4, c4, a5, c5, a6, c6, a7, c7, rfl, h0.rd, h1.rd, h2.rd, h3.rd, h4.rd, h5.rd, h6.rd, h7.rd⟩
set_option maxRecDepth 100000 in
set_option maxHeartbeats 8000000 in
theorem nodeCopy_any (d : NodeD) (c : Array Value) (w : World) (h : NodeC w d c) (hs : smallB d = true) :
    Calls Try.prog 84 #[.agg c] w fun e w' => ∃ c', e = .returned (.agg c') ∧ NodeO w' w.heap.size d c' ∧ Below w.heap.size w w' := by
  have hsm := of_decide_eq_true hs
  obtain ⟨a1, c1, a2, c2, a3, c3, a4, c4, a5, c5, b1, e1, b2, e2, b3, e3, rfl, h1, h2, h3, h4, h5, h6, h7, h8⟩ := h
  have CL := fun (W : World) (hw : Below w.heap.size w W) => copyLeaf_any d.leaf #[.slice a1 d.leaf.box.length c1, .slice a2 d.leaf.sign.length c2, .slice a3 d.leaf.ident.length c3, .int .u8 (d.leaf.source : Nat), .slice a4 d.leaf.par.length c4, .slice a5 d.leaf.sig.length c5] W ⟨a1, c1, a2, c2, a3, c3, a4, c4, a5, c5, rfl, h1.below hw (Nat.le_refl _), h2.below hw (Nat.le_refl _), h3.below hw (Nat.le_refl _), h4.below hw (Nat.le_refl _), h5.below hw (Nat.le_refl _)⟩ (by omega)
  have C1 := fun (W : World) (hw : Below w.heap.size w W) => bclone_any _ d.par.box W (h6.below hw (Nat.le_refl _)) (by omega)
  have C2 := fun (W : World) (hw : Below w.heap.size w W) => bclone_any _ d.par.hash W (h7.below hw (Nat.le_refl _)) (by omega)
  have C3 := fun (W : World) (hw : Below w.heap.size w W) => iclone_any _ d.par.late W (h8.below hw (Nat.le_refl _)) (by omega)
  obtain ⟨kd, hkd⟩ : ∃ k, k = d.kind := ⟨_, rfl⟩
  obtain ⟨l1, hl1⟩ : ∃ l, l = d.leaf.box.length := ⟨_, rfl⟩
  obtain ⟨l2, hl2⟩ : ∃ l, l = d.leaf.sign.length := ⟨_, rfl⟩
  obtain ⟨l3, hl3⟩ : ∃ l, l = d.leaf.ident.length := ⟨_, rfl⟩
  obtain ⟨l4, hl4⟩ : ∃ l, l = d.leaf.par.length := ⟨_, rfl⟩
  obtain ⟨l5, hl5⟩ : ∃ l, l = d.leaf.sig.length := ⟨_, rfl⟩
  obtain ⟨l6, hl6⟩ : ∃ l, l = d.par.box.length := ⟨_, rfl⟩
  obtain ⟨l7, hl7⟩ : ∃ l, l = d.par.hash.length := ⟨_, rfl⟩
  obtain ⟨l8, hl8⟩ : ∃ l, l = d.par.late.length := ⟨_, rfl⟩
  obtain ⟨s, hsrc⟩ : ∃ s, s = d.leaf.source := ⟨_, rfl⟩
  rw [← hl1, ← hl2, ← hl3, ← hl4, ← hl5, ← hsrc] at CL
  rw [← hl6] at C1
  rw [← hl7] at C2
  rw [← hl8] at C3
  rw [← hkd, ← hl1, ← hl2, ← hl3, ← hl4, ← hl5, ← hl6, ← hl7, ← hl8, ← hsrc]
  have HCL := Lib.hid CL
  have HD1 := Lib.hid C1
  have HD2 := Lib.hid C2
  have HD3 := Lib.hid C3
  have HKD := Lib.hid hkd
  have HS := Lib.hid hsrc
  clear CL C1 C2 C3 hsm hs h1 h2 h3 h4 h5 h6 h7 h8 hl1 hl2 hl3 hl4 hl5 hl6 hl7 hl8 hkd hsrc
  have L0 := Lib.hid (show ((w.alloc (.cells #[.int .u8 (kd : Nat), .slice a1 l1 c1, .slice a2 l2 c2, .slice a3 l3 c3, .int .u8 (s : Nat), .slice a4 l4 c4, .slice a5 l5 c5, .slice b1 l6 e1, .slice b2 l7 e2, .slice b3 l8 e3] 46)).alloc (.cells #[.int .u8 0, .slice none 0 0, .slice none 0 0, .slice none 0 0, .int .u8 0, .slice none 0 0, .slice none 0 0, .slice none 0 0, .slice none 0 0, .slice none 0 0] 46)).rangeAt w.heap.size 1 [.slice a1 l1 c1, .slice a2 l2 c2, .slice a3 l3 c3, .int .u8 (s : Nat), .slice a4 l4 c4, .slice a5 l5 c5] from by
    intro j u hu
    have hb : Blk ((w.alloc (.cells #[.int .u8 (kd : Nat), .slice a1 l1 c1, .slice a2 l2 c2, .slice a3 l3 c3, .int .u8 (s : Nat), .slice a4 l4 c4, .slice a5 l5 c5, .slice b1 l6 e1, .slice b2 l7 e2, .slice b3 l8 e3] 46)).alloc (.cells #[.int .u8 0, .slice none 0 0, .slice none 0 0, .slice none 0 0, .int .u8 0, .slice none 0 0, .slice none 0 0, .slice none 0 0, .slice none 0 0, .slice none 0 0] 46)) w.heap.size 46 #[.int .u8 (kd : Nat), .slice a1 l1 c1, .slice a2 l2 c2, .slice a3 l3 c3, .int .u8 (s : Nat), .slice a4 l4 c4, .slice a5 l5 c5, .slice b1 l6 e1, .slice b2 l7 e2, .slice b3 l8 e3] := (Blk.new w _ _).alloc _
    rw [hb.cell]
    match j, hu with
    | 0, hu => exact hu
    | 1, hu => exact hu
    | 2, hu => exact hu
    | 3, hu => exact hu
    | 4, hu => exact hu
    | 5, hu => exact hu
    | j + 6, hu => simp at hu)
  have hA := (Below.refl w.heap.size w).alloc (Nat.le_refl _) (.cells #[.int .u8 (kd : Nat), .slice a1 l1 c1, .slice a2 l2 c2, .slice a3 l3 c3, .int .u8 (s : Nat), .slice a4 l4 c4, .slice a5 l5 c5, .slice b1 l6 e1, .slice b2 l7 e2, .slice b3 l8 e3] 46)
  have HBA := Lib.hid (hA.alloc hA.size (.cells #[.int .u8 0, .slice none 0 0, .slice none 0 0, .slice none 0 0, .int .u8 0, .slice none 0 0, .slice none 0 0, .slice none 0 0, .slice none 0 0, .slice none 0 0] 46))
  have HB0 := Lib.hid (show Blk ((w.alloc (.cells #[.int .u8 (kd : Nat), .slice a1 l1 c1, .slice a2 l2 c2, .slice a3 l3 c3, .int .u8 (s : Nat), .slice a4 l4 c4, .slice a5 l5 c5, .slice b1 l6 e1, .slice b2 l7 e2, .slice b3 l8 e3] 46)).alloc (.cells #[.int .u8 0, .slice none 0 0, .slice none 0 0, .slice none 0 0, .int .u8 0, .slice none 0 0, .slice none 0 0, .slice none 0 0, .slice none 0 0, .slice none 0 0] 46)) w.heap.size 46 #[.int .u8 (kd : Nat), .slice a1 l1 c1, .slice a2 l2 c2, .slice a3 l3 c3, .int .u8 (s : Nat), .slice a4 l4 c4, .slice a5 l5 c5, .slice b1 l6 e1, .slice b2 l7 e2, .slice b3 l8 e3] from (Blk.new w _ _).alloc _)
  have HR0 := Lib.hid (show Blk ((w.alloc (.cells #[.int .u8 (kd : Nat), .slice a1 l1 c1, .slice a2 l2 c2, .slice a3 l3 c3, .int .u8 (s : Nat), .slice a4 l4 c4, .slice a5 l5 c5, .slice b1 l6 e1, .slice b2 l7 e2, .slice b3 l8 e3] 46)).alloc (.cells #[.int .u8 0, .slice none 0 0, .slice none 0 0, .slice none 0 0, .int .u8 0, .slice none 0 0, .slice none 0 0, .slice none 0 0, .slice none 0 0, .slice none 0 0] 46)) (w.heap.size + 1) 46 #[.int .u8 0, .slice none 0 0, .slice none 0 0, .slice none 0 0, .int .u8 0, .slice none 0 0, .slice none 0 0, .slice none 0 0, .slice none 0 0, .slice none 0 0] by have h1 := Blk.new (w.alloc (.cells #[.int .u8 (kd : Nat), .slice a1 l1 c1, .slice a2 l2 c2, .slice a3 l3 c3, .int .u8 (s : Nat), .slice a4 l4 c4, .slice a5 l5 c5, .slice b1 l6 e1, .slice b2 l7 e2, .slice b3 l8 e3] 46)) 46 #[.int .u8 0, .slice none 0 0, .slice none 0 0, .slice none 0 0, .int .u8 0, .slice none 0 0, .slice none 0 0, .slice none 0 0, .slice none 0 0, .slice none 0 0]; simpa using h1)
  clear hA
  go_enter Try.func84, Try.ntmps84
  go_wp2_with (refine wpList_load_mid rfl 42 (.tmp 3) rfl w.heap.size 1 rfl [.slice a1 l1 c1, .slice a2 l2 c2, .slice a3 l3 c3, .int .u8 (s : Nat), .slice a4 l4 c4, .slice a5 l5 c5] _ L0.out Try.underlying42 rfl (by kernel_rfl) ?_)
  refine (HCL.out _ HBA.out).mono ?_
  rintro e w1 ⟨c', rfl, hlo, hb1⟩
  obtain ⟨x0, x1, x2, x3, x4, rfl, o0, o1, o2, o3, o4⟩ := hlo
  rw [← HS.out]
  have hg0 : w.heap.size < ((w.alloc (.cells #[.int .u8 (kd : Nat), .slice a1 l1 c1, .slice a2 l2 c2, .slice a3 l3 c3, .int .u8 (s : Nat), .slice a4 l4 c4, .slice a5 l5 c5, .slice b1 l6 e1, .slice b2 l7 e2, .slice b3 l8 e3] 46)).alloc (.cells #[.int .u8 0, .slice none 0 0, .slice none 0 0, .slice none 0 0, .int .u8 0, .slice none 0 0, .slice none 0 0, .slice none 0 0, .slice none 0 0, .slice none 0 0] 46)).heap.size := HB0.out.lt
  have hg1 : w.heap.size + 1 < ((w.alloc (.cells #[.int .u8 (kd : Nat), .slice a1 l1 c1, .slice a2 l2 c2, .slice a3 l3 c3, .int .u8 (s : Nat), .slice a4 l4 c4, .slice a5 l5 c5, .slice b1 l6 e1, .slice b2 l7 e2, .slice b3 l8 e3] 46)).alloc (.cells #[.int .u8 0, .slice none 0 0, .slice none 0 0, .slice none 0 0, .int .u8 0, .slice none 0 0, .slice none 0 0, .slice none 0 0, .slice none 0 0, .slice none 0 0] 46)).heap.size := HR0.out.lt
  have HK1 := Lib.hid (HB0.out.below hb1 hg0)
  have HK2 := Lib.hid (HR0.out.below hb1 hg1)
  have HBW := Lib.hid (HBA.out.trans (hb1.mono HBA.out.size))
  have HQ := Lib.hid (And.intro o0 (And.intro o1 (And.intro o2 (And.intro o3 o4))))
  have HONE := Lib.hid (show (#[x0, x1, x2, .int .u8 (s : Nat), x3, x4] : Array Value).all (·.oneCell') = true by
    rw [← Array.all_toList]; simp only [List.all_cons, List.all_nil, o0.oneCell, o1.oneCell, o2.oneCell, o3.oneCell, o4.oneCell]; rfl)
  obtain ⟨Bn, hBn⟩ : ∃ B, B = ((w.alloc (.cells #[.int .u8 (kd : Nat), .slice a1 l1 c1, .slice a2 l2 c2, .slice a3 l3 c3, .int .u8 (s : Nat), .slice a4 l4 c4, .slice a5 l5 c5, .slice b1 l6 e1, .slice b2 l7 e2, .slice b3 l8 e3] 46)).alloc (.cells #[.int .u8 0, .slice none 0 0, .slice none 0 0, .slice none 0 0, .int .u8 0, .slice none 0 0, .slice none 0 0, .slice none 0 0, .slice none 0 0, .slice none 0 0] 46)).heap.size := ⟨_, rfl⟩
  rw [← hBn] at HQ hg0 hg1
  have hBle : Bn ≤ w1.heap.size := by have := hb1.size; omega
  clear hb1 o0 o1 o2 o3 o4 hBn HB0 HR0 L0
  go_wp2_with (refine wpList_store_mid rfl 42 (.tmp 6) (.tmp 5) rfl w.heap.size 1 #[x0, x1, x2, .int .u8 (s : Nat), x3, x4] rfl rfl (HK1.out.there 1 6 (by simp)) (by kernel_rfl) HONE.out ?_)
  dsimp only [Act.put]
  obtain ⟨wr, hwr⟩ : ∃ X, X = w1.setCells w.heap.size 1 [x0, x1, x2, .int .u8 (s : Nat), x3, x4] := ⟨_, rfl⟩
  have hon : OnlyG w.heap.size w1 wr := by rw [hwr]; exact onlyG_setCells _ _ _ _
  have HBK := Lib.hid (show Blk wr w.heap.size 46 #[.int .u8 (kd : Nat), x0, x1, x2, .int .u8 (s : Nat), x3, x4, .slice b1 l6 e1, .slice b2 l7 e2, .slice b3 l8 e3] by
    rw [hwr]
    exact (((((HK1.out.set 1 x0).set 2 x1).set 3 x2).set 4 (.int .u8 (s : Nat))).set 5 x3).set 6 x4)
  have HKZ := Lib.hid (HK2.out.only2 hon (by omega))
  have HBR := Lib.hid (HBW.out.trans (hon.1.mono (Nat.le_refl _)))
  have HQ2 := Lib.hid (And.intro (HQ.out.1.onlyG hon hg0) (And.intro (HQ.out.2.1.onlyG hon hg0) (And.intro (HQ.out.2.2.1.onlyG hon hg0) (And.intro (HQ.out.2.2.2.1.onlyG hon hg0) (HQ.out.2.2.2.2.onlyG hon hg0)))))
  have hgB : w.heap.size < wr.heap.size := HBK.out.lt
  have hrB : w.heap.size + 1 < wr.heap.size := HKZ.out.lt
  have hBwr : Bn ≤ wr.heap.size := by have := hon.2.1; omega
  have k7 : wr.cell? ⟨w.heap.size, 7, none⟩ = some (.slice b1 l6 e1) := HBK.out.cell 7
  have k8 : wr.cell? ⟨w.heap.size, 8, none⟩ = some (.slice b2 l7 e2) := HBK.out.cell 8
  have k9 : wr.cell? ⟨w.heap.size, 9, none⟩ = some (.slice b3 l8 e3) := HBK.out.cell 9
  have HC1 := Lib.hid (fun (W : World) (hw : Below wr.heap.size wr W) => HD1.out W (HBR.out.trans (hw.mono HBR.out.size)))
  have HC2 := Lib.hid (fun (W : World) (hw : Below wr.heap.size wr W) => HD2.out W (HBR.out.trans (hw.mono HBR.out.size)))
  have HC3 := Lib.hid (fun (W : World) (hw : Below wr.heap.size wr W) => HD3.out W (HBR.out.trans (hw.mono HBR.out.size)))
  rw [← hwr]
  clear hwr HK1 HK2 HQ HONE hon HCL HD1 HD2 HD3
  refine wp_region_rel [fun v _ => v = .pointer (some ⟨w.heap.size, 7, none⟩), fun v _ => v = .pointer (some ⟨w.heap.size, 7, none⟩), fun v _ => v = .slice b1 l6 e1, fun v w' => Own w' wr.heap.size 5 v (bvs d.par.box), fun v _ => v = .pointer (some ⟨w.heap.size, 7, none⟩), fun v _ => v = .pointer (some ⟨w.heap.size, 8, none⟩), fun v _ => v = .slice b2 l7 e2, fun v w' => Own w' wr.heap.size 5 v (bvs d.par.hash), fun v _ => v = .pointer (some ⟨w.heap.size, 7, none⟩), fun v _ => v = .pointer (some ⟨w.heap.size, 9, none⟩), fun v _ => v = .slice b3 l8 e3, fun v w' => Own w' wr.heap.size 3 v (ivs .i64 d.par.late), fun v w' => ∃ u0 u1 u2, v = .agg #[u0, u1, u2] ∧ Own w' wr.heap.size 5 u0 (bvs d.par.box) ∧ Own w' wr.heap.size 5 u1 (bvs d.par.hash) ∧ Own w' wr.heap.size 3 u2 (ivs .i64 d.par.late), fun v _ => v = .pointer (some ⟨w.heap.size, 7, none⟩), fun v w' => ∃ u0 u1 u2, Blk w' w.heap.size 46 #[.int .u8 (kd : Nat), x0, x1, x2, .int .u8 (s : Nat), x3, x4, u0, u1, u2] ∧ Own w' wr.heap.size 5 u0 (bvs d.par.box) ∧ Own w' wr.heap.size 5 u1 (bvs d.par.hash) ∧ Own w' wr.heap.size 3 u2 (ivs .i64 d.par.late)]
    [true, true, true, true, true, true, true, true, true, true, true, true, true, true, true] (fun X => OnlyG w.heap.size wr X) (fun X Y => OnlyG w.heap.size X Y) (some 14) (by kernel_rfl) ?_ ((OnlyG.of_below (Below.refl _ _) (Nat.le_of_lt hgB)).drewN 1) (fun X Y hx h => OnlyG.of_below h (Nat.le_trans (Nat.le_of_lt hgB) hx.2.1)) (fun X Y hx hs => hx.trans hs) (by kernel_rfl) (by kernel_rfl) ?_ ?_
  · exact keepsR_s (fun _ _ _ h _ _ => h) (keepsR_s (fun _ _ _ h _ _ => h) (keepsR_s (fun _ _ _ h _ _ => h) (keepsR_s (fun v x y h hi hs => Own.onlyG h hs hgB) (keepsR_s (fun _ _ _ h _ _ => h) (keepsR_s (fun _ _ _ h _ _ => h) (keepsR_s (fun _ _ _ h _ _ => h) (keepsR_s (fun v x y h hi hs => Own.onlyG h hs hgB) (keepsR_s (fun _ _ _ h _ _ => h) (keepsR_s (fun _ _ _ h _ _ => h) (keepsR_s (fun _ _ _ h _ _ => h) (keepsR_s (fun v x y h hi hs => Own.onlyG h hs hgB) (keepsR_s (fun v x y h hi hs => let ⟨u0, u1, u2, e, k0, k1, k2⟩ := h; ⟨u0, u1, u2, e, Own.onlyG k0 hs hgB, Own.onlyG k1 hs hgB, Own.onlyG k2 hs hgB⟩) (keepsR_s (fun _ _ _ h _ _ => h) (keepsR_q (fun v x y h hi hs => let ⟨u0, u1, u2, e, k0, k1, k2⟩ := h; ⟨u0, u1, u2, e.below hs e.lt, k0.below hs (Nat.le_refl _), k1.below hs (Nat.le_refl _), k2.below hs (Nat.le_refl _)⟩) (keepsR_nil)))))))))))))))
  · refine .cons (owed7_go ?_) (.cons (owed7_go ?_) (.cons (owed7_go ?_) (.cons (owed7_go ?_) (.cons (owed7_go ?_) (.cons (owed7_go ?_) (.cons (owed7_go ?_) (.cons (owed7_go ?_) (.cons (owed7_go ?_) (.cons (owed7_go ?_) (.cons (owed7_go ?_) (.cons (owed7_go ?_) (.cons (owed7_go ?_) (.cons (owed7_go ?_) (.cons (owed7_go ?_) (.nil)))))))))))))))
    · intro a wx hbx hq ho hf
      have hbx : OnlyG w.heap.size wr wx := hbx
      have hbq : Below wr.heap.size wr wx := hq (by kernel_rfl)
      clear hq
      refine ⟨rfl, ?_⟩
      intro K hK
      have e0 : a.tmps[1]?.getD undef = .pointer (some ⟨w.heap.size, 0, none⟩) := ho 1 (by kernel_rfl)
      go_simp
      exact hK _ _ rfl (stepR_no rfl (Below.refl _ _))
    · intro a wx hbx hq ho hf
      have hbx : OnlyG w.heap.size wr wx := hbx
      have hbq : Below wr.heap.size wr wx := hq (by kernel_rfl)
      clear hq
      refine ⟨rfl, ?_⟩
      intro K hK
      have e0 : a.tmps[7]?.getD undef = .pointer (some ⟨w.heap.size, 7, none⟩) := hf.1
      go_simp
      exact hK _ _ rfl (stepR_no rfl (Below.refl _ _))
    · intro a wx hbx hq ho hf
      have hbx : OnlyG w.heap.size wr wx := hbx
      have hbq : Below wr.heap.size wr wx := hq (by kernel_rfl)
      clear hq
      refine ⟨rfl, ?_⟩
      intro K hK
      have e0 : a.tmps[8]?.getD undef = .pointer (some ⟨w.heap.size, 7, none⟩) := hf.1
      have d1 := (hbq.cell (p := ⟨w.heap.size, 7, none⟩) hgB).trans k7
      go_simp
      exact hK _ _ rfl (stepR_no rfl (Below.refl _ _))
    · intro a wx hbx hq ho hf
      have hbx : OnlyG w.heap.size wr wx := hbx
      have hbq : Below wr.heap.size wr wx := hq (by kernel_rfl)
      clear hq
      refine ⟨rfl, ?_⟩
      intro K hK
      have e0 : a.tmps[9]?.getD undef = .slice b1 l6 e1 := hf.1
      go_simp
      refine (HC1.out wx hbq).mono ?_
      rintro e w2 ⟨v9, rfl, hown, hb2⟩
      exact hK _ _ (hown.mono hbq.size) (stepR_no rfl hb2)
    · intro a wx hbx hq ho hf
      have hbx : OnlyG w.heap.size wr wx := hbx
      have hbq : Below wr.heap.size wr wx := hq (by kernel_rfl)
      clear hq
      refine ⟨rfl, ?_⟩
      intro K hK
      have e0 : a.tmps[1]?.getD undef = .pointer (some ⟨w.heap.size, 0, none⟩) := ho 1 (by kernel_rfl)
      go_simp
      exact hK _ _ rfl (stepR_no rfl (Below.refl _ _))
    · intro a wx hbx hq ho hf
      have hbx : OnlyG w.heap.size wr wx := hbx
      have hbq : Below wr.heap.size wr wx := hq (by kernel_rfl)
      clear hq
      refine ⟨rfl, ?_⟩
      intro K hK
      have e0 : a.tmps[11]?.getD undef = .pointer (some ⟨w.heap.size, 7, none⟩) := hf.1
      go_simp
      exact hK _ _ rfl (stepR_no rfl (Below.refl _ _))
    · intro a wx hbx hq ho hf
      have hbx : OnlyG w.heap.size wr wx := hbx
      have hbq : Below wr.heap.size wr wx := hq (by kernel_rfl)
      clear hq
      refine ⟨rfl, ?_⟩
      intro K hK
      have e0 : a.tmps[12]?.getD undef = .pointer (some ⟨w.heap.size, 8, none⟩) := hf.1
      have d1 := (hbq.cell (p := ⟨w.heap.size, 8, none⟩) hgB).trans k8
      go_simp
      exact hK _ _ rfl (stepR_no rfl (Below.refl _ _))
    · intro a wx hbx hq ho hf
      have hbx : OnlyG w.heap.size wr wx := hbx
      have hbq : Below wr.heap.size wr wx := hq (by kernel_rfl)
      clear hq
      refine ⟨rfl, ?_⟩
      intro K hK
      have e0 : a.tmps[13]?.getD undef = .slice b2 l7 e2 := hf.1
      go_simp
      refine (HC2.out wx hbq).mono ?_
      rintro e w2 ⟨v9, rfl, hown, hb2⟩
      exact hK _ _ (hown.mono hbq.size) (stepR_no rfl hb2)
    · intro a wx hbx hq ho hf
      have hbx : OnlyG w.heap.size wr wx := hbx
      have hbq : Below wr.heap.size wr wx := hq (by kernel_rfl)
      clear hq
      refine ⟨rfl, ?_⟩
      intro K hK
      have e0 : a.tmps[1]?.getD undef = .pointer (some ⟨w.heap.size, 0, none⟩) := ho 1 (by kernel_rfl)
      go_simp
      exact hK _ _ rfl (stepR_no rfl (Below.refl _ _))
    · intro a wx hbx hq ho hf
      have hbx : OnlyG w.heap.size wr wx := hbx
      have hbq : Below wr.heap.size wr wx := hq (by kernel_rfl)
      clear hq
      refine ⟨rfl, ?_⟩
      intro K hK
      have e0 : a.tmps[15]?.getD undef = .pointer (some ⟨w.heap.size, 7, none⟩) := hf.1
      go_simp
      exact hK _ _ rfl (stepR_no rfl (Below.refl _ _))
    · intro a wx hbx hq ho hf
      have hbx : OnlyG w.heap.size wr wx := hbx
      have hbq : Below wr.heap.size wr wx := hq (by kernel_rfl)
      clear hq
      refine ⟨rfl, ?_⟩
      intro K hK
      have e0 : a.tmps[16]?.getD undef = .pointer (some ⟨w.heap.size, 9, none⟩) := hf.1
      have d1 := (hbq.cell (p := ⟨w.heap.size, 9, none⟩) hgB).trans k9
      go_simp
      exact hK _ _ rfl (stepR_no rfl (Below.refl _ _))
    · intro a wx hbx hq ho hf
      have hbx : OnlyG w.heap.size wr wx := hbx
      have hbq : Below wr.heap.size wr wx := hq (by kernel_rfl)
      clear hq
      refine ⟨rfl, ?_⟩
      intro K hK
      have e0 : a.tmps[17]?.getD undef = .slice b3 l8 e3 := hf.1
      go_simp
      refine (HC3.out wx hbq).mono ?_
      rintro e w2 ⟨v9, rfl, hown, hb2⟩
      exact hK _ _ (hown.mono hbq.size) (stepR_no rfl hb2)
    · intro a wx hbx hq ho hf
      have hbx : OnlyG w.heap.size wr wx := hbx
      have hbq : Below wr.heap.size wr wx := hq (by kernel_rfl)
      clear hq
      refine ⟨rfl, ?_⟩
      intro K hK
      have o0 : Own wx wr.heap.size 5 (a.tmps[10]?.getD undef) (bvs d.par.box) := hf.1
      obtain ⟨v0, hv0⟩ : ∃ v, v = a.tmps[10]?.getD undef := ⟨_, rfl⟩
      rw [← hv0] at o0
      have e0 := hv0.symm
      clear hv0
      have o1 : Own wx wr.heap.size 5 (a.tmps[14]?.getD undef) (bvs d.par.hash) := hf.2.1
      obtain ⟨v1, hv1⟩ : ∃ v, v = a.tmps[14]?.getD undef := ⟨_, rfl⟩
      rw [← hv1] at o1
      have e1 := hv1.symm
      clear hv1
      have o2 : Own wx wr.heap.size 3 (a.tmps[18]?.getD undef) (ivs .i64 d.par.late) := hf.2.2.1
      obtain ⟨v2, hv2⟩ : ∃ v, v = a.tmps[18]?.getD undef := ⟨_, rfl⟩
      rw [← hv2] at o2
      have e2 := hv2.symm
      clear hv2
      obtain ⟨p1, p2, p3, rfl⟩ := slOf' o0
      obtain ⟨p4, p5, p6, rfl⟩ := slOf' o1
      obtain ⟨p7, p8, p9, rfl⟩ := slOf' o2
      go_simp
      exact hK _ _ ⟨_, _, _, rfl, o0, o1, o2⟩ (stepR_no rfl (Below.refl _ _))
    · intro a wx hbx hq ho hf
      have hbx : OnlyG w.heap.size wr wx := hbx
      have hbq : Below wr.heap.size wr wx := hq (by kernel_rfl)
      clear hq
      refine ⟨rfl, ?_⟩
      intro K hK
      have e0 : a.tmps[1]?.getD undef = .pointer (some ⟨w.heap.size, 0, none⟩) := ho 1 (by kernel_rfl)
      go_simp
      exact hK _ _ rfl (stepR_no rfl (Below.refl _ _))
    · intro a wx hbx hq ho hf
      have hbx : OnlyG w.heap.size wr wx := hbx
      have hbq : Below wr.heap.size wr wx := hq (by kernel_rfl)
      clear hq
      refine ⟨rfl, ?_⟩
      intro K hK
      have e0 : a.tmps[20]?.getD undef = .pointer (some ⟨w.heap.size, 7, none⟩) := hf.1
      have o1 : ∃ u0 u1 u2, (a.tmps[19]?.getD undef) = .agg #[u0, u1, u2] ∧ Own wx wr.heap.size 5 u0 (bvs d.par.box) ∧ Own wx wr.heap.size 5 u1 (bvs d.par.hash) ∧ Own wx wr.heap.size 3 u2 (ivs .i64 d.par.late) := hf.2.1
      obtain ⟨v1, hv1⟩ : ∃ v, v = a.tmps[19]?.getD undef := ⟨_, rfl⟩
      rw [← hv1] at o1
      have e1 := hv1.symm
      clear hv1
      obtain ⟨u0, u1, u2, hu, k0, k1, k2⟩ := o1
      have hblk := HBK.out.below hbq HBK.out.lt
      refine wp_store_mid 44 (.tmp 20) (.tmp 19) rfl w.heap.size 7 #[u0, u1, u2] (evs e0) (evs (e1.trans hu)) (hblk.there 7 3 (by simp)) (by kernel_rfl) (by rw [← Array.all_toList]; simp only [List.all_cons, List.all_nil, k0.oneCell, k1.oneCell, k2.oneCell]; rfl) ?_
      have hne : ∀ {e v xs}, Own wx wr.heap.size e v xs → e ≠ 46 → ∀ (j : Nat) (u : Value) (W : World), Own W wr.heap.size e v xs → Own (W.setCell ⟨w.heap.size, j, none⟩ u) wr.heap.size e v xs := fun _ _ j u W h2 => h2.setLow (p := ⟨w.heap.size, j, none⟩) hgB u
      exact hK undef _ ⟨u0, u1, u2, ((hblk.set 7 u0).set 8 u1).set 9 u2, hne k0 (by decide) _ _ _ (hne k0 (by decide) _ _ _ (hne k0 (by decide) _ _ _ k0)), hne k1 (by decide) _ _ _ (hne k1 (by decide) _ _ _ (hne k1 (by decide) _ _ _ k1)), hne k2 (by decide) _ _ _ (hne k2 (by decide) _ _ _ (hne k2 (by decide) _ _ _ k2))⟩ (stepR_yes rfl (((OnlyG.setCell 7 u0).trans (OnlyG.setCell 8 u1)).trans (OnlyG.setCell 9 u2)))
  · rintro f w9 hb9 hfin
    have hb9 : OnlyG w.heap.size wr w9 := hb9
    have S20 : ∃ u0 u1 u2, Blk w9 w.heap.size 46 #[.int .u8 (kd : Nat), x0, x1, x2, .int .u8 (s : Nat), x3, x4, u0, u1, u2] ∧ Own w9 wr.heap.size 5 u0 (bvs d.par.box) ∧ Own w9 wr.heap.size 5 u1 (bvs d.par.hash) ∧ Own w9 wr.heap.size 3 u2 (ivs .i64 d.par.late) := hfin.2.2.2.2.2.2.2.2.2.2.2.2.2.2.1
    clear hfin
    simp only [frameOf, dstsOf, zipF, List.filterMap_cons, List.filterMap_nil, List.contains_cons, List.contains_nil, Nat.reduceBEq, Nat.reduceAdd, Bool.or_false, Bool.or_true, cond_true, cond_false]
    obtain ⟨u0, u1, u2, hblk, k0, k1, k2⟩ := S20
    have HZ9 := Lib.hid (HKZ.out.only2 hb9 (by omega))
    have HQ9 := Lib.hid (And.intro (HQ2.out.1.onlyG hb9 hg0) (And.intro (HQ2.out.2.1.onlyG hb9 hg0) (And.intro (HQ2.out.2.2.1.onlyG hb9 hg0) (And.intro (HQ2.out.2.2.2.1.onlyG hb9 hg0) (HQ2.out.2.2.2.2.onlyG hb9 hg0)))))
    have HB9 := Lib.hid (HBR.out.trans (hb9.1.mono (Nat.le_refl _)))
    have HP9 := Lib.hid (And.intro (k0.mono hBwr) (And.intro (k1.mono hBwr) (k2.mono hBwr)))
    obtain ⟨XS, hXS⟩ : ∃ X, X = (#[.int .u8 (kd : Nat), x0, x1, x2, .int .u8 (s : Nat), x3, x4, u0, u1, u2] : Array Value) := ⟨_, rfl⟩
    have HONE := Lib.hid (show XS.toList.all (·.oneCell') = true by
      rw [hXS]
      simp only [List.all_cons, List.all_nil, HQ9.out.1.oneCell, HQ9.out.2.1.oneCell, HQ9.out.2.2.1.oneCell, HQ9.out.2.2.2.1.oneCell, HQ9.out.2.2.2.2.oneCell, HP9.out.1.oneCell, HP9.out.2.1.oneCell, HP9.out.2.2.oneCell]; rfl)
    rw [← hXS] at hblk
    have HBK9 := Lib.hid hblk
    have HIN := Lib.hid (show (Try.prog.info? 46).map (·.size) = some XS.size by rw [hXS]; exact node_info)
    have HZS := Lib.hid (show (#[.int .u8 0, .slice none 0 0, .slice none 0 0, .slice none 0 0, .int .u8 0, .slice none 0 0, .slice none 0 0, .slice none 0 0, .slice none 0 0, .slice none 0 0] : Array Value).size = XS.size by rw [hXS]; rfl)
    have HXE := Lib.hid hXS
    have hg9 : w.heap.size + 1 < w9.heap.size := HZ9.out.lt
    clear hXS hblk k0 k1 k2 hb9 k7 k8 k9 HC1 HC2 HC3 HKZ HQ2 HBR HBK hgB hrB
    go_wp2_with (first | (refine wpList_load_row rfl 46 (.tmp 1) rfl w.heap.size rfl 46 XS (0, 0) _ HBK9.out Try.underlying46 rfl HIN.out ?_) | (refine wpList_store_blk rfl 46 (.tmp 2) (.tmp 21) rfl (w.heap.size + 1) XS rfl rfl 46 #[.int .u8 0, .slice none 0 0, .slice none 0 0, .slice none 0 0, .int .u8 0, .slice none 0 0, .slice none 0 0, .slice none 0 0, .slice none 0 0, .slice none 0 0] HZ9.out HIN.out HZS.out HONE.out ?_))
    intro w3 m0 mb mo msz
    have M0 := Lib.hid m0
    have HB3 := Lib.hid (HB9.out.trans ((mb (w.heap.size + 1) (Nat.le_refl _)).mono (by omega)))
    have hoo : OnlyG (w.heap.size + 1) w9 w3 := ⟨mb (w.heap.size + 1) (Nat.le_refl _), by omega, fun i _ hne => mo i hne⟩
    have hb3 : w.heap.size ≤ Bn := by omega
    have HF := Lib.hid (And.intro ((HQ9.out.1.onlyG hoo hg1).mono hb3) (And.intro ((HQ9.out.2.1.onlyG hoo hg1).mono hb3) (And.intro ((HQ9.out.2.2.1.onlyG hoo hg1).mono hb3) (And.intro ((HQ9.out.2.2.2.1.onlyG hoo hg1).mono hb3) ((HQ9.out.2.2.2.2.onlyG hoo hg1).mono hb3)))))
    have HG := Lib.hid (And.intro ((HP9.out.1.onlyG hoo hg1).mono hb3) (And.intro ((HP9.out.2.1.onlyG hoo hg1).mono hb3) ((HP9.out.2.2.onlyG hoo hg1).mono hb3)))
    clear m0 mb mo msz hoo
    go_wp2_with fail
    refine bodyPost_ret (v := .agg XS) (results_row1 rfl _ _ (w.heap.size + 1) 46 XS _ rfl M0.out Try.underlying46 rfl HIN.out) rfl ⟨XS, rfl, ⟨x0, x1, x2, x3, x4, u0, u1, u2, by rw [HXE.out, HKD.out, HS.out], HF.out.1, HF.out.2.1, HF.out.2.2.1, HF.out.2.2.2.1, HF.out.2.2.2.2, HG.out.1, HG.out.2.1, HG.out.2.2⟩, HB3.out⟩
end Go.Proofs.Ytohldijomcljkaa
