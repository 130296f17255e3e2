/- Plain: the state of gcm's tag; marks that a function leaves with; regions inside a round. -/
import Derived.Test.YtfpjpakjlhidkaaGcmMasked
import Derived.RangeFuncLeaves
namespace Go.Proofs.Ytfpjpakjlhidkaa
open Go.RowKit AesM GcmM GcmB
set_option linter.unusedVariables false
theorem wpOps_in {P : Program} {ops : Array Oper} {Q : Exit → Act → World → Prop} {lr n : Nat} (hnd : noDeferB ops.toList = true) (hQ : ∀ a w, ¬ Q .outgrown a w) : ∀ (is : List Nat) (a : Act) (w : World), wpOps P ops Q is a w → wpOpsIn (Fence.wide.inRound lr) n P ops Q is a w := by
  intro is
  induction is with
  | nil => intro a w h; exact h
  | cons i is ih =>
    intro a w h
    unfold wpOps at h
    unfold wpOpsIn
    cases ho : ops[i]? with
    | none => rw [ho] at h; exact ih _ _ h
    | some o =>
      rw [ho] at h
      simp only at h ⊢
      split at h
      · rename_i hw
        rw [if_pos hw]
        rcases h with h | ⟨_, a', w', h⟩
        · exact Oper.wpIn_mono ih (oper_in lr n (noDefer hnd (i := i) (by simpa using ho)) h)
        · exact absurd h (hQ _ _)
      · rename_i hw
        rw [if_neg hw]
        exact ⟨fun _ _ => trivial, ih _ _ h⟩
/-- a region that draws nothing, inside a round, walked as a plain one -/
theorem wpIn_region_round {P : Program} {id : Nat} {l : List Oper} {Q : Exit → Act → World → Prop} {a : Act} {w : World} {lr n : Nat} (hnd : noDeferB l = true) (hQ : ∀ a w, ¬ Q .outgrown a w) (h : wpList P l.toArray Q l a w) : (Code.region id l.toArray false).wpIn (Fence.wide.inRound lr) n P Q a w := by
  refine wpIn_region (wpOps_in (by simpa using hnd) hQ _ _ _ ?_)
  rw [List.range_eq_range', ← Array.length_toList, wpOps_eq_wpList l 0 (by simp)]
  exact h
/-- the marks of a function's range statements -/
def DOk (base : Nat) (W : World) : List Deferred → Nat → Prop
  | [], _ => True
  | d :: ds, top => ∃ D, d = { target := .collected D, args := #[] } ∧ base ≤ D ∧ D < top ∧ W.heap[D]? = some (.deferred (some [])) ∧ DOk base W ds D
theorem DOk.congr {base : Nat} {W W' : World} : ∀ {dl : List Deferred} {top : Nat}, DOk base W dl top → (∀ D, D < top → W.heap[D]? = some (.deferred (some [])) → W'.heap[D]? = some (.deferred (some []))) → DOk base W' dl top := by
  intro dl
  induction dl with
  | nil => intro top _ _; trivial
  | cons d ds ih =>
    intro top h hs
    obtain ⟨D, h1, h2, h3, h4, h5⟩ := h
    exact ⟨D, h1, h2, h3, hs D h3 h4, ih h5 (fun D' h' e => hs D' (by omega) e)⟩
theorem DOk.mono {base : Nat} {W : World} {dl : List Deferred} {top top' : Nat} (h : DOk base W dl top) (ht : top ≤ top') : DOk base W dl top' := by
  cases dl with
  | nil => trivial
  | cons d ds =>
    obtain ⟨D, h1, h2, h3, h4, h5⟩ := h
    exact ⟨D, h1, h2, by omega, h4, h5⟩
theorem leave_marks {P : Program} {F : Fence} {n : Nat} {fn : Func} {tmps : Array Value} {R : Ending → World → Prop} {base : Nat} (J : World → Prop)
    (hJ : ∀ W D, base ≤ D → W.heap[D]? = some (.deferred (some [])) → J W → J (W.putObj D (.deferred none))) (hE : ∀ W, J W → LeavesInM F n P fn tmps R [] .returning W) :
    ∀ (dl : List Deferred) (W : World) (top : Nat), DOk base W dl top → J W → LeavesInM F n P fn tmps R dl .returning W := by
  intro dl
  induction dl with
  | nil => intro W top _ h; exact hE W h
  | cons d ds ih =>
    intro W top h hj
    obtain ⟨D, rfl, h2, h3, h4, h5⟩ := h
    refine ⟨by simp, .inl ⟨D, _, rfl, run_takeDeferred h4, ?_⟩⟩
    refine ih _ D (h5.congr fun D' h' e => ?_) (hJ W D h2 h4 hj)
    rw [World.putObj_heap_other (by omega)]
    exact e
theorem evs {a : Act} {s : Nat} {v : Value} (h : a.tmps[s]?.getD undef = v) : a.eval (.tmp s) = v := by
  first
  | exact h
  | simpa [Act.eval, Array.getD_eq_getD_getElem?] using h
theorem wrapU (n : Nat) (h : n < 18446744073709551616) : IntKind.u64.wrap (n : Int) = (n : Int) := by rw [IntKind.wrap_u64]; omega
/-- a part filled with zeros -/
def padB (b : List Nat) (x : Nat) : List Nat := (List.range 16).map fun j => b.getD (x + j) 0
theorem padB_len (b : List Nat) (x : Nat) : (padB b x).length = 16 := by simp [padB]
theorem padB_lt {b : List Nat} (hb : ∀ n ∈ b, n < 256) (x : Nat) : ∀ n ∈ padB b x, n < 256 := by
  intro n hn
  obtain ⟨j, _, rfl⟩ := List.mem_map.1 hn
  exact getD_lt hb (by omega) _
theorem padB_copy (b : List Nat) (x : Nat) (hx : x < b.length) : ((b.drop x).take (min 16 (b.length - x))) ++ (List.replicate 16 0).drop (min 16 (b.length - x)) = padB b x := by
  refine ext_getD (by rw [padB_len]; simp; omega) fun j hj => ?_
  have hj16 : j < 16 := by simp at hj; omega
  have hr : (padB b x).getD j 0 = b.getD (x + j) 0 := by simp [padB, List.getD_eq_getElem?_getD, hj16]
  rw [hr, List.getD_eq_getElem?_getD, List.getElem?_append]
  by_cases h : j < min 16 (b.length - x)
  · rw [if_pos (by simp; omega), List.getElem?_take_of_lt h, List.getElem?_drop, List.getD_eq_getElem?_getD]
  · rw [if_neg (by simp; omega), List.getD_eq_getElem?_getD, List.getElem?_eq_none (l := b) (by omega)]
    simp only [List.drop_replicate, List.getElem?_replicate]
    split <;> rfl
theorem Rd.recap {w : World} {a : Addr} {n c c' : Nat} {xs : List Value} (h : Rd w (.slice (some a) n c) xs) (h1 : n ≤ c') (h2 : c' ≤ c) : Rd w (.slice (some a) n c') xs := by
  obtain ⟨a', cap, e, q1, q2, q3⟩ := h
  simp only [Value.slice.injEq] at e
  obtain ⟨rfl, rfl, rfl⟩ := e
  refine ⟨some a, c', rfl, h1, by omega, ?_⟩
  rcases q3 with ⟨q, _⟩ | q
  · exact .inl ⟨q, fun h => by cases h⟩
  · exact .inr q
/-- the sum over a text's parts -/
def ghF (h : Nat) (b : List Nat) (y : Nat) : Nat := (List.range ((b.length + 15) / 16)).foldl (fun y i => GcmM.gm (y ^^^ beV (padB b (16 * i))) h) y
def ghP {len : Nat} (h : Nat) (b : List Nat) (y : Nat) (pre : List (Off len)) : Nat := pre.foldl (fun y x => GcmM.gm (y ^^^ beV (padB b x.1)) h) y
theorem ghP_snoc {len : Nat} (h : Nat) (b : List Nat) (y : Nat) (pre : List (Off len)) (x : Off len) : ghP h b y (pre ++ [x]) = GcmM.gm (ghP h b y pre ^^^ beV (padB b x.1)) h := by simp [ghP]
theorem ghP_end {len : Nat} (h : Nat) (b : List Nat) (y : Nat) (pre : List (Off len)) (hl : b.length = len) (hp : pre.map (·.1) = (List.range ((len + 15) / 16)).map (16 * ·)) : ghP h b y pre = ghF h b y := by
  have e : ghP h b y pre = (pre.map (·.1)).foldl (fun y x => GcmM.gm (y ^^^ beV (padB b x)) h) y := by simp only [ghP, List.foldl_map]
  rw [e, hp, List.foldl_map, ghF, hl]
theorem beV_lt16 {b : List Nat} (hb : ∀ n ∈ b, n < 256) (hl : b.length = 16) : beV b < P128 := beV_lt128 hb hl
theorem ghP_lt {len : Nat} {h : Nat} (hh : h < P128) (b : List Nat) {y : Nat} (hy : y < P128) : ∀ (pre : List (Off len)), ghP h b y pre < P128 := by
  intro pre
  induction pre generalizing y with
  | nil => exact hy
  | cons x pre ih => exact ih (gm_lt hh _)
/-- the tag -/
def tagF (K N S M : List Nat) : List Nat :=
  let h := beV (blk K (List.replicate 16 0))
  beN 16 (GcmM.gm (ghF h S (ghF h M 0) ^^^ (8 * M.length * 18446744073709551616 + 8 * S.length)) h ^^^ beV (mk K N 1))
structure TagS (w : World) (hb : Nat) (v3 v4 : Value) (H y : Nat) (dl : List Deferred) (top : Nat) (W : World) : Prop where
  k1 : Blk W hb 54 (pr H)
  k2 : Blk W (hb + 1) 54 (pr y)
  k3 : Blk W (hb + 2) 28 #[v4, v3]
  low : Below w.heap.size w W
  d : DOk (hb + 3) W dl top
  size : hb + 3 ≤ W.heap.size
  htop : top ≤ W.heap.size
theorem dok_below {base : Nat} {W W' : World} {dl : List Deferred} {top B : Nat} (h : DOk base W dl top) (hb : Below B W W') (ht : top ≤ B) : DOk base W' dl top :=
  h.congr fun D h' e => by rw [hb.block D (by omega)]; exact e
theorem TagS.below {w : World} {hb : Nat} {v3 v4 : Value} {H y : Nat} {dl : List Deferred} {top : Nat} {W W' : World} (s : TagS w hb v3 v4 H y dl top W) (h : Below W.heap.size W W') : TagS w hb v3 v4 H y dl top W' where
  k1 := s.k1.below h s.k1.lt
  k2 := s.k2.below h s.k2.lt
  k3 := s.k3.below h s.k3.lt
  low := s.low.trans (h.mono s.low.size)
  d := dok_below s.d h s.htop
  size := Nat.le_trans s.size h.size
  htop := Nat.le_trans s.htop h.size
theorem setRow_below (W : World) (g : Nat) (cs : Array Value) {B : Nat} (h : B ≤ g) : Below B W (W.setRow g cs) := ⟨rfl, rfl, rfl, by simp, fun i hi => setRow_other W g i cs (by omega)⟩
theorem TagS.set {w : World} {hb : Nat} {v3 v4 : Value} {H y : Nat} {dl : List Deferred} {top : Nat} {W : World} (s : TagS w hb v3 v4 H y dl top W) (hw : w.heap.size ≤ hb) (y' : Nat) : TagS w hb v3 v4 H y' dl top (W.setRow (hb + 1) (pr y')) where
  k1 := (setRow_other W (hb + 1) hb _ (by omega)).trans s.k1
  k2 := setRow_heap W (hb + 1) _ _ _ _ s.k2
  k3 := (setRow_other W (hb + 1) (hb + 2) _ (by omega)).trans s.k3
  low := s.low.trans (setRow_below W (hb + 1) _ (by omega))
  d := s.d.congr fun D h' e => by
    rw [setRow_other W (hb + 1) D _ (by
      intro e'
      have := s.k2
      unfold Blk at this
      rw [← e', e] at this
      cases this)]
    exact e
  size := by simpa using s.size
  htop := by simpa using s.htop
theorem tagS_own (w : World) (hb : Nat) (v3 v4 : Value) (H : Nat) {β : Type} (yf : β → Nat) (dl : List Deferred) (top B : Nat) (hB : w.heap.size ≤ B) (ht : top ≤ B) : OwnFrom B (fun (p : β) W => TagS w hb v3 v4 H (yf p) dl top W) := by
  intro p A C row s hg hr
  refine ⟨blk_kept s.k1 hg (fun r e => (hr r e).2), blk_kept s.k2 hg (fun r e => (hr r e).2), blk_kept s.k3 hg (fun r e => (hr r e).2), ?_, ?_, Nat.le_trans s.size hg.size, Nat.le_trans s.htop hg.size⟩
  · exact ownFrom_below (β := Unit) (n₀ := w.heap.size) (B := B) (Nat.le_refl _) hB () A C row s.low hg hr
  · refine s.d.congr fun D h' e => ?_
    rw [hg.block D (Array.getElem?_eq_some_iff.1 e).1 (fun e' => by have := (hr D e'.symm).1; omega)]
    exact e
/-- the state inside a round -/
structure TagR (w W : World) (hb : Nat) (v3 v4 : Value) (H y : Nat) (dl : List Deferred) (top B Bs : Nat) (wr : World) : Prop where
  s : TagS w hb v3 v4 H y dl top wr
  keeps : KeepsFrom B W wr
  kp : KpB Bs W wr
  sz : B ≤ wr.heap.size
theorem TagR.below {w W : World} {hb : Nat} {v3 v4 : Value} {H y : Nat} {dl : List Deferred} {top B Bs : Nat} {wr wx : World} (s : TagR w W hb v3 v4 H y dl top B Bs wr) (hB : Bs + 2 ≤ B) (h : Below wr.heap.size wr wx) : TagR w W hb v3 v4 H y dl top B Bs wx :=
  ⟨s.s.below h, s.keeps.trans (keepsFrom_below h), kpB_t s.kp (kpB_below h (by have := s.sz; omega)), Nat.le_trans s.sz h.size⟩
theorem TagR.set {w W : World} {hb : Nat} {v3 v4 : Value} {H y : Nat} {dl : List Deferred} {top B Bs : Nat} {wr : World} (s : TagR w W hb v3 v4 H y dl top B Bs wr) (hw : w.heap.size ≤ hb) (hB : hb + 3 ≤ Bs) (hB2 : Bs + 2 ≤ B) (y' : Nat) : TagR w W hb v3 v4 H y' dl top B Bs (wr.setRow (hb + 1) (pr y')) :=
  ⟨s.s.set hw y', s.keeps.trans ⟨by simp, fun k o hk e _ => by rw [setRow_other wr (hb + 1) k _ (by omega)]; exact e⟩, kpB_t s.kp ⟨setRow_other wr (hb + 1) Bs _ (by omega), setRow_other wr (hb + 1) (Bs + 1) _ (by omega)⟩, by simpa using s.sz⟩
end Go.Proofs.Ytfpjpakjlhidkaa
