/- The library's slices.Insert at []int, one number into a list that the call owns: what it returns and where it lies. -/
import Derived.Test.YtlcmodbjbdfloaaZTreeAdds37
import Derived.Test.YtlcmodbjbdfloaaZTreeAdds36
namespace Go.Proofs.Ytlcmodbjbdfloaa
open Go.RowKit WireM
set_option linter.unusedVariables false
theorem take_ins {cs X : List Value} {x : Value} {n p : Nat} (hc : cs.length = n) (hp : p ≤ n) (hX : n + 1 ≤ X.length) (h : ∀ j, j ≤ n → X[j]? = if j < p then cs[j]? else if j = p then some x else cs[j - 1]?) :
    X.take (n + 1) = cs.take p ++ [x] ++ cs.drop p := by
  apply List.ext_getElem?
  intro j
  have hl1 : (cs.take p).length = p := by rw [List.length_take]; omega
  have hl2 : (cs.take p ++ [x]).length = p + 1 := by rw [List.length_append, hl1]; rfl
  by_cases hj : j ≤ n
  · rw [List.getElem?_take, if_pos (by omega), h j hj]
    by_cases h1 : j < p
    · rw [if_pos h1, List.append_assoc, List.getElem?_append_left (by omega), List.getElem?_take, if_pos h1]
    · rw [if_neg h1]
      by_cases h2 : j = p
      · subst h2
        rw [if_pos rfl, List.getElem?_append_left (by omega), List.getElem?_append_right (by omega), hl1, Nat.sub_self]; rfl
      · rw [if_neg h2, List.getElem?_append_right (by omega), hl2, List.getElem?_drop]
        congr 1
        omega
  · rw [List.getElem?_take, if_neg (by omega), List.getElem?_eq_none]
    rw [List.length_append, hl2, List.length_drop]; omega
theorem ivs_take (k : IntKind) (L : List Int) (p : Nat) : ivs k (L.take p) = (ivs k L).take p := by simp [ivs]
theorem ivs_drop (k : IntKind) (L : List Int) (p : Nat) : ivs k (L.drop p) = (ivs k L).drop p := by simp [ivs]
theorem ivs_ins (k : IntKind) (L : List Int) (x : Int) (p : Nat) : ivs k (L.take p ++ [x] ++ L.drop p) = (ivs k L).take p ++ [.int k x] ++ (ivs k L).drop p := by simp [ivs]
theorem ivs_oneCell (k : IntKind) (L : List Int) : ∀ v ∈ ivs k L, v.oneCell' = true := by
  intro v hv
  simp only [ivs, List.mem_map] at hv
  obtain ⟨i, _, rfl⟩ := hv
  rfl
/-- a row of memory, all of it, as it reads -/
theorem row_full {w : World} {B g cap : Nat} {e : TypeId} {cur : Array Value} (hg : w.heap[g]? = some (.cells cur e (0, 0))) (hB : B ≤ g) (hs : cur.size = cap) (hm : cap ≤ maxLen) : OwnK w B e 1 (.slice (some ⟨g, 0, none⟩) cap cap) cap cur.toList :=
  ⟨by simp [hs], .inr ⟨g, cap, cur, rfl, hB, hg, Nat.le_refl _, hm, by omega, by rw [Nat.mul_one, List.take_of_length_le (by simp [hs])]⟩⟩
theorem row_part {w : World} {B g cap n : Nat} {e : TypeId} {X ys : List Value} (h : OwnK w B e 1 (.slice (some ⟨g, 0, none⟩) cap cap) cap X) (hn : n ≤ cap) (ht : X.take n = ys) (hl : ys.length = n) : Own w B e (.slice (some ⟨g, 0, none⟩) n cap) ys := by
  obtain ⟨h1, ⟨h2, _⟩ | ⟨g', cap', cur, h2, h3, h4, h5, h6, h7, h8⟩⟩ := h
  · cases h2
  · simp only [Value.slice.injEq, Option.some.injEq, Addr.mk.injEq, and_true, true_and] at h2
    obtain ⟨rfl, rfl⟩ := h2
    refine ⟨by rw [Nat.mul_one], .inr ⟨g, cap, cur, by rw [hl], h3, h4, by rw [hl]; exact hn, h6, h7, ?_⟩⟩
    rw [hl, Nat.mul_one, ← ht, ← h8, List.take_take, Nat.min_eq_left (by omega)]
theorem drew_grown (w : World) (row : Option Nat) : w.grownBy w.drew row := ⟨rfl, rfl, rfl, Nat.le_refl _, fun _ _ _ => rfl⟩
theorem grown_trans {w1 w2 w3 : World} {row : Option Nat} (h1 : w1.grownBy w2 row) (h2 : w2.grownBy w3 row) : w1.grownBy w3 row :=
  ⟨h2.os.trans h1.os, h2.tape.trans h1.tape, h2.output.trans h1.output, Nat.le_trans h1.size h2.size, fun k hk hne => (h2.block k (Nat.lt_of_lt_of_le hk h1.size) hne).trans (h1.block k hk hne)⟩
theorem grown_newRow {w w1 : World} {g : Nat} (h : w.grownBy w1 none) (hg : w.heap.size ≤ g) (vs : List Value) (o : Nat) : w.grownBy (w1.setCells g o vs) none := by
  have h2 := grownBy_setCells (w := w1) (g := g) vs o
  exact ⟨h2.os.trans h.os, h2.tape.trans h.tape, h2.output.trans h.output, Nat.le_trans h.size h2.size, fun k hk hne => (h2.block k (Nat.lt_of_lt_of_le hk h.size) (by simp; omega)).trans (h.block k hk hne)⟩
theorem grown_weaken {w w1 : World} (h : w.grownBy w1 none) (row : Option Nat) : w.grownBy w1 row := ⟨h.os, h.tape, h.output, h.size, fun k hk _ => h.block k hk (by simp)⟩
/-- what an insertion gives -/
def InsR (w w' : World) (B : Nat) (V V' : Value) (L' : List Int) : Prop :=
  Own w' B 3 V' (ivs .i64 L') ∧ w.grownBy w' V.ownBlock ∧ (V'.ownBlock = V.ownBlock ∨ ∃ g, V'.ownBlock = some g ∧ w.heap.size ≤ g)
theorem insR_new {w : World} {B : Nat} {V : Value} {L' : List Int} {w1 w' : World} {cap : Nat} {X : List Value} (hB : B ≤ w.heap.size) (h : OwnK w' B 3 1 (.slice (some ⟨w.heap.size, 0, none⟩) cap cap) cap X) (hn : L'.length ≤ cap) (ht : X.take L'.length = ivs .i64 L') (hg : w.grownBy w' none) :
    InsR w w' B V (.slice (some ⟨w.heap.size, 0, none⟩) L'.length cap) L' :=
  ⟨row_part h hn ht (ivs_len' _ _), grown_weaken hg _, .inr ⟨_, rfl, Nat.le_refl _⟩⟩
theorem ins_any (V U : Value) (L : List Int) (x : Int) (p B B2 : Nat) (w : World) (hv : Own w B 3 V (ivs .i64 L)) (hu : Own w B2 3 U [.int .i64 x]) (hp : p ≤ L.length) (hl : L.length ≤ 1000000) (hB : B ≤ w.heap.size) (hVU : ∀ g, V.ownBlock = some g → g < B2) :
    Calls Try.prog 36 #[V, .int .i64 (p : Nat), U] w fun e w' => ∃ V', e = .returned V' ∧ InsR w w' B V V' (L.take p ++ [x] ++ L.drop p) := by
  obtain ⟨vb, vc, vcur, rfl, hvb, hvlt, hvh, hvn, hvm, hvs, hvt, hvcell, hvfz⟩ := hu.out (by simp)
  have hlen' : (L.take p ++ [x] ++ L.drop p).length = L.length + 1 := by simp; omega
  have hshU : w.shape? vb = some (3, vcur.size) := by unfold World.shape?; rw [hvh]
  have h1v : ∀ v ∈ [Value.int .i64 x], v.oneCell' = true := by intro v hv; rw [List.mem_singleton] at hv; rw [hv]; rfl
  have hvs' : ∀ j v, [Value.int .i64 x][j]? = some v → w.cell? ⟨vb, 0 + j, none⟩ = some v := fun j v hj => by rw [Nat.zero_add]; exact hvcell j v hj
  have h1c := ivs_oneCell .i64 L
  obtain ⟨hvl, ⟨rfl, h0⟩ | ⟨g, cap, cur, rfl, hg, hh, hn, hm, hs, ht⟩⟩ := hv
  · have hL : L = [] := List.eq_nil_of_length_eq_zero (by rw [ivs_len'] at h0; exact h0)
    subst hL
    obtain rfl : p = 0 := by simpa using hp
    refine (Any2.slices_Insert_int_end_grow insLay none 0 0 vb 0 1 vc [] [.int .i64 x] w (by omega) (by omega) (by omega) (by omega) rfl rfl (fun _ => rfl) (fun a h => by cases h) hvs' h1v).mono ?_
    rintro e w' ⟨rfl, rfl⟩
    refine ⟨_, rfl, insR_new (w1 := w) hB (row_full (heap_alloc_new _ _) hB ?_ ?_) ?_ ?_ ?_⟩
    · have := grownCap_ge w (0 + 1) 0 3
      simp only [Array.size_append, List.size_toArray, size_zeroCells]
      simp [Value.cells]
      exact Nat.add_sub_cancel' this
    · exact grownCap_le_maxLen w _ _ _ (by unfold maxLen; omega)
    · exact grownCap_ge w (0 + 1) 0 3
    · simp [ivs]
    · exact ⟨rfl, rfl, rfl, by simp, fun k hk _ => heap_alloc_old w.drew _ hk⟩
  · rw [ivs_len'] at hn ht ⊢
    rw [Nat.mul_one] at ht hs
    obtain ⟨cs, hcs⟩ : ∃ cs, cs = ivs .i64 L := ⟨_, rfl⟩
    have hcl : cs.length = L.length := by rw [hcs, ivs_len']
    have hfull := row_full (B := B) hh hg hs hm
    have hcell : ∀ j v, cs[j]? = some v → w.cell? ⟨g, 0 + j, none⟩ = some v := fun j v hj => by
      rw [Nat.zero_add, cell_of_row w g j cur _ (0, 0) hh]
      rw [hcs, ← ht] at hj
      rw [List.getElem?_take] at hj
      split at hj
      · simpa using hj
      · cases hj
    have hcurj : ∀ j, j < L.length → cur.toList[j]? = cs[j]? := fun j hj => by rw [hcs, ← ht, List.getElem?_take, if_pos hj]
    rw [← hcs] at h1c
    have hcap63 : cap ≤ 9223372036854775807 := by unfold maxLen at hm; exact hm
    have hsp : ∀ j, j < cap → (w.cell? ⟨g, j, none⟩).isSome = true := fun j hj => by
      rw [cell_of_row w g j cur _ (0, 0) hh, Array.getElem?_eq_getElem (by omega)]; rfl
    have hfz : ∀ j, w.frozen? ⟨g, j, none⟩ = false := fun j => frozen_of_row w g j cur _ hh
    have hgB : g < B2 := hVU g rfl
    have hshV : w.shape? g = some (3, cur.size) := by unfold World.shape?; rw [hh]
    have hclen : cur.toList.length = cap := by simp [hs]
    rcases Nat.lt_or_ge p L.length with hlt | hge
    · rcases Nat.lt_or_ge cap (L.length + 1) with hno | hroom
      · refine (Any2.slices_Insert_int_grow insLay g 0 L.length cap p vb 0 1 vc cs [.int .i64 x] w hlt (by omega) hn hno (by omega) hcl rfl hcell hvs' h1c h1v).mono ?_
        rintro e w' ⟨rfl, rfl⟩
        have hge' := grownCap_ge w (L.length + 1) cap 3
        have hmx := grownCap_le_maxLen w (L.length + 1) cap 3 (by unfold maxLen; omega)
        obtain ⟨G, hG⟩ : ∃ G, G = grownCap w (L.length + 1) cap 3 := ⟨_, rfl⟩
        have hG' : grownCap w (L.length + 1) cap (insRen.t 3) = G := hG.symm
        rw [← hG] at hge' hmx
        rw [hG']
        obtain ⟨ROW, hROW⟩ : ∃ ROW : Array Value, ROW = (cs.take p).toArray ++ Builtin.zeroCells (Value.int .i64 0).cells (L.length + 1 - p) ++ Builtin.zeroCells (Value.int .i64 0).cells (G - (L.length + 1)) := ⟨_, rfl⟩
        rw [← hROW]
        have hRs : ROW.size = G := by
          rw [hROW]
          simp only [Array.size_append, List.size_toArray, size_zeroCells, List.length_take]
          simp [Value.cells]
          omega
        have hRp : ∀ j, j < p → ROW.toList[j]? = cs[j]? := fun j hj => by
          rw [hROW]
          simp only [Array.toList_append, List.append_assoc]
          rw [List.getElem?_append_left (by rw [List.length_take]; omega), List.getElem?_take, if_pos hj]
        have hrow := row_full (B := B) (w := w.alloc (.cells ROW (insRen.t 3))) (heap_alloc_new w _) hB hRs hmx
        have h1 := OwnK.put (w := (w.alloc (.cells ROW (insRen.t 3))).drew) [.int .i64 x] p hrow
        have h2 := OwnK.put (w := ((w.alloc (.cells ROW (insRen.t 3))).drew.setCells w.heap.size p [.int .i64 x]).drew) (cs.drop p) (p + 1) h1
        have hRl : ROW.toList.length = G := by simp [hRs]
        have hdl : (cs.drop p).length = L.length - p := by rw [List.length_drop, hcl]
        have e1 : L.length + 1 = (L.take p ++ [x] ++ L.drop p).length := hlen'.symm
        rw [e1]
        refine ⟨_, rfl, insR_new (w1 := w) hB h2 (by omega) ?_ ?_⟩
        · rw [hlen', ivs_ins, ← hcs]
          refine take_ins hcl (by omega) (by rw [putL_len, putL_len]; omega) fun j hj => ?_
          rw [putL_get _ _ _ (by rw [putL_len]; omega), putL_get _ _ _ (by simp; omega)]
          by_cases c1 : j < p
          · rw [if_neg (by omega), if_neg (by omega), if_pos c1, hRp j c1]
          · rw [if_neg c1]
            by_cases c2 : j = p
            · subst c2; rw [if_neg (by omega), if_pos (by simp), if_pos rfl]; simp
            · rw [if_pos (by omega), if_neg c2, List.getElem?_drop]; congr 1; omega
        · have a1 : w.grownBy (w.alloc (.cells ROW (insRen.t 3))) none := World.grownBy_alloc w _ none
          have a2 := grown_trans a1 (drew_grown _ none)
          have a3 := grown_newRow a2 (Nat.le_refl _) [.int .i64 x] p
          have a4 := grown_trans a3 (drew_grown _ none)
          exact grown_newRow a4 (Nat.le_refl _) (cs.drop p) (p + 1)
      · refine (Any2.slices_Insert_int_shift insLay g 0 L.length cap p vb 0 1 vc cs [.int .i64 x] w hlt (by omega) hroom hcap63 (by omega) hcl rfl hcell (fun j hj => by rw [Nat.zero_add]; exact hsp j (by omega)) (fun j _ => by rw [Nat.zero_add]; exact hfz j) hvs' h1c h1v 3 3 vcur.size cur.size hshU hshV (by omega) (hvfz _) (hvfz _)).mono ?_
        rintro e w' ⟨rfl, rfl⟩
        have h1 := OwnK.put (w := w.drew) (cs.drop p) (0 + (p + 1)) hfull
        have h2 := OwnK.put [.int .i64 x] (0 + p) h1
        have hdl : (cs.drop p).length = L.length - p := by rw [List.length_drop, hcl]
        refine ⟨_, rfl, ?_, ?_, .inl rfl⟩
        · refine row_part h2 hroom ?_ (by rw [ivs_len', hlen'])
          rw [ivs_ins, ← hcs]
          refine take_ins hcl (by omega) (by rw [putL_len, putL_len]; omega) fun j hj => ?_
          rw [putL_get _ _ _ (by rw [putL_len]; simp; omega), putL_get _ _ _ (by omega)]
          simp only [Nat.zero_add]
          by_cases c1 : j < p
          · rw [if_neg (by omega), if_neg (by omega), if_pos c1, hcurj j (by omega)]
          · rw [if_neg c1]
            by_cases c2 : j = p
            · subst c2; rw [if_pos (by simp), if_pos rfl]; simp
            · rw [if_neg (by simp; omega), if_pos (by omega), if_neg c2, List.getElem?_drop]; congr 1; omega
        · exact grown_trans (grown_trans (drew_grown w _) (grownBy_setCells (w := w.drew) (cs.drop p) _)) (grownBy_setCells _ _)
    · obtain rfl : p = L.length := by omega
      have htk : L.take L.length = L := List.take_of_length_le (Nat.le_refl _)
      have hdr : L.drop L.length = [] := List.drop_of_length_le (Nat.le_refl _)
      rcases Nat.lt_or_ge cap (L.length + 1) with hno | hroom
      · refine (Any2.slices_Insert_int_end_grow insLay (some ⟨g, 0, none⟩) L.length cap vb 0 1 vc cs [.int .i64 x] w (by omega) hn hno (by omega) hcl rfl (fun h => by cases h) (fun a ha j v hj => by
          simp only [Option.some.injEq] at ha
          subst ha
          rw [Addr.add_lit]
          exact hcell j v hj) hvs' h1v).mono ?_
        rintro e w' ⟨rfl, rfl⟩
        have hge' := grownCap_ge w (L.length + 1) cap 3
        have hmx := grownCap_le_maxLen w (L.length + 1) cap 3 (by unfold maxLen; omega)
        obtain ⟨G, hG⟩ : ∃ G, G = grownCap w (L.length + 1) cap 3 := ⟨_, rfl⟩
        have hG' : grownCap w (L.length + 1) cap (insRen.t 3) = G := hG.symm
        rw [← hG] at hge' hmx
        rw [hG']
        have e1 : L.length + 1 = (L.take L.length ++ [x] ++ L.drop L.length).length := hlen'.symm
        rw [e1]
        refine ⟨_, rfl, insR_new (w1 := w) hB (row_full (w := w.drew.alloc _) (heap_alloc_new w.drew _) hB ?_ hmx) (by omega) ?_ ?_⟩
        · rw [hlen']
          simp only [Array.size_append, List.size_toArray, size_zeroCells, List.length_append, hcl]
          simp [Value.cells]
          omega
        · rw [ivs_ins, ← hcs]
          rw [List.take_of_length_le (l := cs) (by omega), List.drop_of_length_le (l := cs) (by omega), List.append_nil]
          simp only [Array.toList_append]
          rw [List.take_left' (by rw [hlen']; simp [hcl])]
        · exact ⟨rfl, rfl, rfl, by simp, fun k hk _ => heap_alloc_old w.drew _ hk⟩
      · refine (Any2.slices_Insert_int_end_room insLay g 0 L.length cap vb 0 1 vc [.int .i64 x] w (by omega) hroom hcap63 rfl (fun j hj => by rw [Nat.zero_add]; exact hsp _ (by omega)) (fun j _ => by rw [Nat.zero_add]; exact hfz _) hvs' h1v).mono ?_
        rintro e w' ⟨rfl, rfl⟩
        have h2 := OwnK.put [.int .i64 x] (0 + L.length) hfull
        refine ⟨_, rfl, ?_, grownBy_setCells _ _, .inl rfl⟩
        refine row_part h2 hroom ?_ (by rw [ivs_len', hlen'])
        rw [ivs_ins, ← hcs]
        refine take_ins hcl (by omega) (by rw [putL_len]; omega) fun j hj => ?_
        rw [putL_get _ _ _ (by simp; omega)]
        simp only [Nat.zero_add]
        by_cases c1 : j < L.length
        · rw [if_neg (by omega), if_pos c1, hcurj j c1]
        · obtain rfl : j = L.length := by omega
          rw [if_pos (by simp), if_neg c1, if_pos rfl]; simp
end Go.Proofs.Ytlcmodbjbdfloaa
