/- Walks: the reference's Put, the law's put. -/
import Derived.Test.YtkihcngllhjabaaWireList
import Derived.RegionTactic
import Derived.Test.YtkihcngllhjabaaRegionApp
namespace Go.Proofs.Ytkihcngllhjabaa
open Go.RowKit WireM
set_option linter.unusedVariables false
structure ItemD where
  kind : Int
  size : Int
  n : Nat
  v : List Nat
  l : List (List Nat)
/-- what an item may be, as it is looked at -/
structure ItemOk (d : ItemD) : Prop where
  n : d.n < 18446744073709551616
  v : ∀ x ∈ d.v, x < 256
  l : ∀ r ∈ d.l, ∀ x ∈ r, x < 256
  kind : -9223372036854775808 ≤ d.kind ∧ d.kind ≤ 9223372036854775807
  size : -9223372036854775808 ≤ d.size ∧ d.size ≤ 9223372036854775807
/-- what isn't far -/
structure Near (d : ItemD) : Prop where
  k0 : 0 ≤ d.kind
  k4 : d.kind ≤ 4
  v : d.v.length ≤ 300
  l : d.l.length ≤ 20
  r : ∀ r ∈ d.l, r.length ≤ 200
/-- the five cells of an item -/
def ItemC (w : World) (d : ItemD) (c : Array Value) : Prop := ∃ cv cl, c = #[.int .i64 d.kind, .int .i64 d.size, .int .u64 (d.n : Nat), cv, cl] ∧ Rd w cv (bvs d.v) ∧ RdL w cl d.l
theorem ItemC.below {w w' : World} {B : Nat} {d : ItemD} {c : Array Value} (h : ItemC w d c) (hb : Below B w w') (hB : w.heap.size ≤ B) : ItemC w' d c := by
  obtain ⟨cv, cl, h1, h2, h3⟩ := h
  exact ⟨cv, cl, h1, h2.below hb hB, h3.below hb hB⟩
/-- an item's bytes -/
def putB (d : ItemD) : List Nat :=
  if d.kind = 0 then beN d.size.toNat d.n else if d.kind = 1 then vecB d.v else if d.kind = 2 then listB d.l else if d.kind = 3 then [if 0 < d.n then 1 else 0] else d.v
theorem putB_len {d : ItemD} (hn : Near d) (hs : d.kind = 0 → d.size.toNat ≤ 8) : (putB d).length ≤ 5000 := by
  have h2 := vecB_len d.v (by have := hn.v; omega)
  have h3 := catB_len d.l hn.r
  have h4 := vecB_len (catB d.l) (by have := hn.l; omega)
  have h5 := hn.v
  have h6 := hn.l
  unfold putB listB
  split
  · rename_i h
    rw [beN_len]
    have := hs h; omega
  · split
    · omega
    · split
      · omega
      · split
        · simp
        · omega
theorem catB_lt : ∀ (l : List (List Nat)), (∀ r ∈ l, r.length ≤ 200) → (∀ r ∈ l, ∀ x ∈ r, x < 256) → ∀ x ∈ catB l, x < 256 := by
  intro l h1 h2 x hx
  simp only [catB, List.mem_flatten, List.mem_map] at hx
  obtain ⟨y, ⟨r, hr, rfl⟩, hx⟩ := hx
  exact vecB_lt (by have := h1 r hr; omega) (h2 r hr) x hx
theorem putB_lt {d : ItemD} (hn : Near d) (hk : ItemOk d) : ∀ x ∈ putB d, x < 256 := by
  intro x hx
  have h3 := catB_len d.l hn.r
  have h6 := hn.l
  unfold putB listB at hx
  split at hx
  · exact beN_lt _ _ x hx
  · split at hx
    · exact vecB_lt (by have := hn.v; omega) hk.v x hx
    · split at hx
      · exact vecB_lt (by omega) (catB_lt _ hn.r hk.l) x hx
      · split at hx
        · simp only [List.mem_singleton] at hx
          subst hx
          split <;> omega
        · exact hk.v x hx
set_option maxRecDepth 100000 in
set_option maxHeartbeats 4000000 in
theorem rput_any (d : ItemD) (c : Array Value) (w : World) (h : ItemC w d c) (hk : ItemOk d) (hn : Near d) (hs : d.kind = 0 → 0 ≤ d.size ∧ d.size ≤ 8) :
    Calls Try.prog 50 #[.agg c] w fun e w' => ∃ v', e = .returned v' ∧ Rd w' v' (bvs (putB d)) ∧ Below w.heap.size w w' := by
  obtain ⟨cv, cl, rfl, hv, hl⟩ := h
  obtain ⟨kind, size, n, V, L⟩ := d
  have k0 := hn.k0
  have k4 := hn.k4
  simp only at k0 k4 hv hl hs ⊢
  have hd : kind = 0 ∨ kind = 1 ∨ kind = 2 ∨ kind = 3 ∨ kind = 4 := by omega
  have HV := Lib.hid hv
  have HL := Lib.hid hl
  rcases hd with rfl | rfl | rfl | rfl | rfl
  · obtain ⟨s, rfl⟩ : ∃ s : Nat, size = (s : Int) := ⟨size.toNat, by have := hs rfl; omega⟩
    have e : putB ⟨0, (s : Int), n, V, L⟩ = beN s n := by simp [putB]
    rw [e]
    have N := fun w => rnum_any s n w (by have := hs rfl; omega) hk.n
    have HN := Lib.hid N
    clear hs hk hn hv hl e N
    go_enter Try.func50, Try.ntmps50
    go_wp2_with fail
    refine (HN.out _).mono ?_
    rintro e w1 ⟨v1, rfl, hown, hb⟩
    have HO := Lib.hid hown.rd
    have HB := Lib.hid hb
    clear hown hb
    go_wp2_with fail
    go_ret
    exact ⟨_, rfl, HO.out, ((Below.refl _ _).alloc (Nat.le_refl _) _).trans (HB.out.mono (by simp))⟩
  · have e : putB ⟨1, size, n, V, L⟩ = vecB V := by simp [putB]
    rw [e]
    have N := fun w h => rvec_any cv V w h (by have := hn.v; simp only at this; omega)
    have HN := Lib.hid N
    clear hs hk hn hv hl e N
    go_enter Try.func50, Try.ntmps50
    go_wp2_with fail
    refine (HN.out _ (HV.out.alloc _)).mono ?_
    rintro e w1 ⟨v1, rfl, hown, hb⟩
    have HO := Lib.hid hown.rd
    have HB := Lib.hid hb
    clear hown hb
    go_wp2_with fail
    go_ret
    exact ⟨_, rfl, HO.out, ((Below.refl _ _).alloc (Nat.le_refl _) _).trans (HB.out.mono (by simp))⟩
  · have e : putB ⟨2, size, n, V, L⟩ = listB L := by simp [putB]
    rw [e]
    have N := fun w h => rlist_any cl L w h hn.l hn.r
    have HN := Lib.hid N
    clear hs hk hn hv hl e N
    go_enter Try.func50, Try.ntmps50
    go_wp2_with fail
    refine (HN.out _ (HL.out.below ((Below.refl w.heap.size _).alloc (Nat.le_refl _) _) (Nat.le_refl _))).mono ?_
    rintro e w1 ⟨v1, rfl, hown, hb⟩
    have HO := Lib.hid hown.rd
    have HB := Lib.hid hb
    clear hown hb
    go_wp2_with fail
    go_ret
    exact ⟨_, rfl, HO.out, ((Below.refl _ _).alloc (Nat.le_refl _) _).trans (HB.out.mono (by simp))⟩
  · have hn64 := hk.n
    simp only at hn64
    by_cases h0 : 0 < n
    · have e : putB ⟨3, size, n, V, L⟩ = [1] := by simp [putB, h0]
      rw [e]
      clear hs hk hn hv hl e
      go_enter Try.func50, Try.ntmps50
      go_wp2_with fail
      go_ret
      refine ⟨_, rfl, ?_, ((Below.refl _ _).alloc (Nat.le_refl _) _).alloc (by simp) _⟩
      exact lit_rd (cs := #[.int .u8 1]) (L := [1]) (by simp) rfl (by simp)
    · obtain rfl : n = 0 := by omega
      have e : putB ⟨3, size, 0, V, L⟩ = [0] := by simp [putB]
      rw [e]
      clear hs hk hn hv hl e
      go_enter Try.func50, Try.ntmps50
      go_wp2_with fail
      go_ret
      refine ⟨_, rfl, ?_, ((Below.refl _ _).alloc (Nat.le_refl _) _).alloc (by simp) _⟩
      exact lit_rd (cs := #[.int .u8 0]) (L := [0]) (by simp) rfl (by simp)
  · have e : putB ⟨4, size, n, V, L⟩ = V := by simp [putB]
    rw [e]
    clear hs hk hn hv hl e
    go_enter Try.func50, Try.ntmps50
    go_wp2_with fail
    go_ret
    exact ⟨_, rfl, HV.out.alloc _, (Below.refl _ _).alloc (Nat.le_refl _) _⟩
set_option maxRecDepth 100000 in
set_option maxHeartbeats 4000000 in
theorem put_any (b : Value) (B : List Nat) (d : ItemD) (c : Array Value) (w : World) (hb : Rd w b (bvs B)) (hB : B.length < 268435456) (h : ItemC w d c) (hk : ItemOk d) (hn : Near d) (hs : d.kind = 0 → d.size = 0 ∨ mayB d.size = true) :
    Calls Try.prog 49 #[b, .agg c] w fun e w' => ∃ v', e = .returned v' ∧ Own w' w.heap.size 5 v' (bvs (B ++ putB d)) ∧ Below w.heap.size w w' := by
  obtain ⟨cv, cl, rfl, hv, hl⟩ := h
  obtain ⟨kind, size, n, V, L⟩ := d
  have k0 := hn.k0
  have k4 := hn.k4
  simp only at k0 k4 hv hl hs ⊢
  have hd : kind = 0 ∨ kind = 1 ∨ kind = 2 ∨ kind = 3 ∨ kind = 4 := by omega
  have HV := Lib.hid hv
  have HL := Lib.hid hl
  have HBB := Lib.hid hb
  rcases hd with rfl | rfl | rfl | rfl | rfl
  · have N : ∀ w, Rd w b (bvs B) → Calls Try.prog 71 #[b, .int .i64 size, .int .u64 (n : Nat)] w fun e w' => ∃ v', e = .returned v' ∧ Own w' w.heap.size 5 v' (bvs (B ++ putB ⟨0, size, n, V, L⟩)) ∧ Below w.heap.size w w' := by
      intro w hb
      rcases hs rfl with rfl | hm
      · have := putNum_off b B 0 n w hb (by omega) rfl
        simpa [putB, beN] using this
      · obtain ⟨s, rfl⟩ : ∃ s : Nat, size = (s : Int) := ⟨size.toNat, by have := of_decide_eq_true hm; omega⟩
        have := putNum_on b B s n w hb (by omega) hm hk.n
        simpa [putB] using this
    have HN := Lib.hid N
    clear hs hk hn hv hl N hb
    go_enter Try.func49, Try.ntmps49
    go_wp2_with fail
    refine (HN.out _ (HBB.out.alloc _)).mono ?_
    rintro e w1 ⟨v1, rfl, hown, hb⟩
    have HO := Lib.hid hown
    have HB := Lib.hid hb
    clear hown hb
    go_wp2_with fail
    go_ret
    exact ⟨_, rfl, HO.out.mono (by simp), ((Below.refl _ _).alloc (Nat.le_refl _) _).trans (HB.out.mono (by simp))⟩
  · have e : putB ⟨1, size, n, V, L⟩ = vecB V := by simp [putB]
    rw [e]
    have N := fun w hb h => putVec_any b cv B V w hb h (by omega) (by have := hn.v; simp only at this; omega)
    have HN := Lib.hid N
    clear hs hk hn hv hl e N hb
    go_enter Try.func49, Try.ntmps49
    go_wp2_with fail
    refine (HN.out _ (HBB.out.alloc _) (HV.out.alloc _)).mono ?_
    rintro e w1 ⟨v1, rfl, hown, hb⟩
    have HO := Lib.hid hown
    have HB := Lib.hid hb
    clear hown hb
    go_wp2_with fail
    go_ret
    exact ⟨_, rfl, HO.out.mono (by simp), ((Below.refl _ _).alloc (Nat.le_refl _) _).trans (HB.out.mono (by simp))⟩
  · have e : putB ⟨2, size, n, V, L⟩ = listB L := by simp [putB]
    rw [e]
    have N := fun w hb h => putList_any b cl B L w hb (by omega) h hn.l hn.r
    have HN := Lib.hid N
    clear hs hk hn hv hl e N hb
    go_enter Try.func49, Try.ntmps49
    go_wp2_with fail
    refine (HN.out _ (HBB.out.alloc _) (HL.out.below ((Below.refl w.heap.size _).alloc (Nat.le_refl _) _) (Nat.le_refl _))).mono ?_
    rintro e w1 ⟨v1, rfl, hown, hb⟩
    have HO := Lib.hid hown
    have HB := Lib.hid hb
    clear hown hb
    go_wp2_with fail
    go_ret
    exact ⟨_, rfl, HO.out.mono (by simp), ((Below.refl _ _).alloc (Nat.le_refl _) _).trans (HB.out.mono (by simp))⟩
  · have hn64 := hk.n
    simp only at hn64
    by_cases h0 : 0 < n
    · have e : putB ⟨3, size, n, V, L⟩ = [1] := by simp [putB, h0]
      rw [e]
      have N := fun w hb => putNum_on b B 1 1 w hb (by omega) rfl (by omega)
      have HN := Lib.hid N
      clear hs hk hn hv hl e N hb
      go_enter Try.func49, Try.ntmps49
      go_wp2_with fail
      refine (HN.out _ (HBB.out.alloc _)).mono ?_
      rintro e w1 ⟨v1, rfl, hown, hb⟩
      have HO := Lib.hid hown
      have HB := Lib.hid hb
      clear hown hb
      go_wp2_with fail
      go_ret
      exact ⟨_, rfl, HO.out.mono (by simp), ((Below.refl _ _).alloc (Nat.le_refl _) _).trans (HB.out.mono (by simp))⟩
    · obtain rfl : n = 0 := by omega
      have e : putB ⟨3, size, 0, V, L⟩ = [0] := by simp [putB]
      rw [e]
      have N := fun w hb => putNum_on b B 1 0 w hb (by omega) rfl (by omega)
      have HN := Lib.hid N
      clear hs hk hn hv hl e N hb
      go_enter Try.func49, Try.ntmps49
      go_wp2_with fail
      refine (HN.out _ (HBB.out.alloc _)).mono ?_
      rintro e w1 ⟨v1, rfl, hown, hb⟩
      have HO := Lib.hid hown
      have HB := Lib.hid hb
      clear hown hb
      go_wp2_with fail
      go_ret
      exact ⟨_, rfl, HO.out.mono (by simp), ((Below.refl _ _).alloc (Nat.le_refl _) _).trans (HB.out.mono (by simp))⟩
  · have e : putB ⟨4, size, n, V, L⟩ = V := by simp [putB]
    rw [e]
    have hvl := hn.v
    simp only at hvl
    clear hs hk hn hv hl e hb
    go_enter Try.func49, Try.ntmps49
    go_wp2_with fail
    have HVL := Lib.hid hvl
    have HVK := Lib.hid (HV.out.k (Nat.le_refl _))
    clear hvl
    go_region_law (first
      | (refine step_app rfl (.tmp 36) (.tmp 37) 22 rfl (w.heap.size + 1) 5 _ 1 bytesE _ [] rfl (Own.drew (Own.lit0 (by simp) (by simp))) _ (bvs B) rfl (Rd.drew ((HBB.out.alloc _).alloc _)) (bvs_one _) (by simp [bvs_len]; omega) (by simp) ?_; rintro v2 w2 hown2 hb2; have hc2 : w2.cell? ⟨w.heap.size, 3, none⟩ = some cv := (hb2.cell (p := ⟨w.heap.size, 3, none⟩) (by simp)).trans (by go_simp); have hbt : Below w.heap.size w w2 := Below.trans (below_drewN' (((Below.refl _ _).alloc (Nat.le_refl _) _).alloc (by simp) _) 1) (hb2.mono (by omega)))
      | (refine step_app rfl (.tmp 38) (.tmp 40) 22 rfl (w.heap.size + 1) 5 _ 1 bytesE _ (bvs B) rfl hown2 _ (bvs V) rfl (HVK.out.keep (fun p hp => hbt.cell hp)).rd (bvs_one _) (by simp [bvs_len]; have := HVL.out; omega) (by have := hb2.size; simp at this; omega) ?_; rintro v3 w3 hown3 hb3))
    all_goals
      go_wp2_with fail
      go_ret
      refine ⟨_, rfl, Own.mono ?_ (Nat.le_succ _), hbt.trans (hb3.mono (by omega))⟩
      rw [bvs_append]
      exact hown3
end Go.Proofs.Ytkihcngllhjabaa
