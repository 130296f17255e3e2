/- Walks: the law's far. -/
import Derived.Test.YtkihcngllhjabaaWireItem
namespace Go.Proofs.Ytkihcngllhjabaa
open Go.RowKit WireM
set_option linter.unusedVariables false
def nearB (d : ItemD) : Bool := decide (0 ≤ d.kind ∧ d.kind ≤ 4 ∧ d.v.length ≤ 300 ∧ d.l.length ≤ 20 ∧ ∀ r ∈ d.l, r.length ≤ 200)
theorem near_iff (d : ItemD) : nearB d = true ↔ Near d := by
  rw [nearB, decide_eq_true_iff]
  constructor
  · rintro ⟨a, b, c, e, f⟩; exact ⟨a, b, c, e, f⟩
  · rintro ⟨a, b, c, e, f⟩; exact ⟨a, b, c, e, f⟩
def farB (ds : List ItemD) : Bool := !(ds.all nearB) || decide (30 < ds.length)
theorem farB_far {ds : List ItemD} {d : ItemD} (hd : d ∈ ds) (h : ¬ Near d) : farB ds = true := by
  have : ds.all nearB = false := by
    rw [List.all_eq_false]
    exact ⟨d, hd, fun e => h ((near_iff d).1 e)⟩
  rw [farB, this]; rfl
theorem farB_not {ds : List ItemD} (h : farB ds = false) : (∀ d ∈ ds, Near d) ∧ ds.length ≤ 30 := by
  rw [farB, Bool.or_eq_false_iff] at h
  constructor
  · intro d hd
    have h1 : ds.all nearB = true := by simpa using h.1
    exact (near_iff d).1 (List.all_eq_true.1 h1 d hd)
  · have := of_decide_eq_false h.2; omega
theorem farB_near {ds : List ItemD} (h : ∀ d ∈ ds, Near d) : farB ds = decide (30 < ds.length) := by
  have : ds.all nearB = true := List.all_eq_true.2 fun d hd => (near_iff d).2 (h d hd)
  rw [farB, this]; rfl
/-- v is a slice of items -/
def ItemsR (w : World) (v : Value) (ds : List ItemD) : Prop :=
  ∃ a cap, v = .slice a ds.length cap ∧ ds.length ≤ cap ∧ cap ≤ maxLen ∧ ∀ i (hi : i < ds.length), ∃ b off cv cl, a = some ⟨b, off, none⟩ ∧ b < w.heap.size ∧
    w.cell? ⟨b, off + i * 5, none⟩ = some (.int .i64 ds[i].kind) ∧ w.cell? ⟨b, off + i * 5 + 1, none⟩ = some (.int .i64 ds[i].size) ∧ w.cell? ⟨b, off + i * 5 + 2, none⟩ = some (.int .u64 (ds[i].n : Nat)) ∧
    w.cell? ⟨b, off + i * 5 + 3, none⟩ = some cv ∧ w.cell? ⟨b, off + i * 5 + 4, none⟩ = some cl ∧ Rd w cv (bvs ds[i].v) ∧ RdL w cl ds[i].l
set_option maxRecDepth 100000 in
set_option maxHeartbeats 8000000 in
theorem far_any (v : Value) (ds : List ItemD) (w : World) (h : ItemsR w v ds) :
    Calls Try.prog 48 #[v] w fun e w' => e = .returned (.bool (farB ds)) ∧ w = w' := by
  obtain ⟨a, cap, rfl, hc1, hc2, hit⟩ := h
  obtain ⟨k, hk⟩ : ∃ k, k = ds.length := ⟨_, rfl⟩
  rw [← hk] at hc1 ⊢
  have hkm : k ≤ 9223372036854775807 := by unfold maxLen at hc2; omega
  have HK := Lib.hid hk
  have HIT := Lib.hid hit
  clear hk hit
  go_enter Try.func48, Try.ntmps48
  go_wp2_with fail
  go_loopg [3] k (fun q i wr => ∃ r : Nat, r + q = k ∧ i = .int .i64 (r : Int) ∧ (∀ d ∈ ds.take r, Near d) ∧ wr = w)
  case atStart => exact ⟨0, by omega, rfl, by simp, rfl⟩
  case round =>
    obtain ⟨r, hr, rfl, hnear, rfl⟩ := hrel
    have HN := Lib.hid hnear
    clear hnear
    by_cases hrk : r < k
    · have hrd : r < ds.length := by have := HK.out; omega
      obtain ⟨b, off, cv, cl, rfl, hbl, c0, c1, c2, c3, c4, hv, hl⟩ := HIT.out r hrd
      have hmem := List.getElem_mem hrd
      have hts : ds.take (r + 1) = ds.take r ++ [ds[r]] := List.take_succ_eq_append_getElem hrd
      obtain ⟨D, hD⟩ : ∃ D, D = ds[r] := ⟨_, rfl⟩
      rw [← hD] at c0 c1 c2 hv hl hmem hts
      obtain ⟨av, capv, rfl, hv1, hv2, _⟩ := hv
      obtain ⟨al, capl, rfl, hl1, hl2, hlr⟩ := hl.cases
      rw [bvs_len] at c3 hv1
      have HM := Lib.hid hmem
      have HT := Lib.hid hts
      have HLR := Lib.hid hlr
      have hrk' : decide ((r : Int) < (k : Int)) = true := by rw [decide_eq_true_iff]; omega
      clear hD hmem hts hl hlr c1 c2
      by_cases f1 : D.kind < 0
      · have HF := Lib.hid (farB_far HM.out (fun h => by have := h.k0; omega))
        go_wp2_with fail
        go_ret
        exact ⟨ret_bool HF.out.symm, rfl⟩
      · by_cases f2 : 4 < D.kind
        · have HF := Lib.hid (farB_far HM.out (fun h => by have := h.k4; omega))
          go_wp2_with fail
          go_ret
          exact ⟨ret_bool HF.out.symm, rfl⟩
        · by_cases f3 : 300 < D.v.length
          · have HF := Lib.hid (farB_far HM.out (fun h => by have := h.v; omega))
            have g1 : 0 ≤ D.kind := by omega
            have g2 : D.kind ≤ 4 := by omega
            go_wp2_with fail
            go_ret
            exact ⟨ret_bool HF.out.symm, rfl⟩
          · by_cases f4 : 20 < D.l.length
            · have HF := Lib.hid (farB_far HM.out (fun h => by have := h.l; omega))
              have g1 : 0 ≤ D.kind := by omega
              have g2 : D.kind ≤ 4 := by omega
              have g3 : D.v.length ≤ 300 := by omega
              go_wp2_with fail
              go_ret
              exact ⟨ret_bool HF.out.symm, rfl⟩
            · have g1 : 0 ≤ D.kind := by omega
              have g2 : D.kind ≤ 4 := by omega
              have g3 : D.v.length ≤ 300 := by omega
              have g4 : D.l.length ≤ 20 := by omega
              clear f1 f2 f3 f4
              obtain ⟨wo, rfl⟩ : ∃ wo : World, wo = wr := ⟨_, rfl⟩
              obtain ⟨go1, rfl⟩ : ∃ g, g = gk := ⟨_, rfl⟩
              go_wp2_with fail
              go_loopg [4] D.l.length (fun q i wv => ∃ t : Nat, t + q = D.l.length ∧ i = .int .i64 (t : Int) ∧ (∀ x ∈ D.l.take t, x.length ≤ 200) ∧ wv = wo)
              case atStart => exact ⟨0, by omega, rfl, by simp, rfl⟩
              case round =>
                clear hrk'
                obtain ⟨t, ht, rfl, hsm, rfl⟩ := hrel
                have HS := Lib.hid hsm
                clear hsm
                by_cases htl : t < D.l.length
                · obtain ⟨b2, o2, u, rfl, hb2, hc, hu⟩ := HLR.out t htl
                  have hmem2 := List.getElem_mem htl
                  have hts2 : D.l.take (t + 1) = D.l.take t ++ [D.l[t]] := List.take_succ_eq_append_getElem htl
                  obtain ⟨X, hX⟩ : ∃ X, X = D.l[t] := ⟨_, rfl⟩
                  rw [← hX] at hu hmem2 hts2
                  obtain ⟨au, capu, rfl, hu1, hu2, _⟩ := hu
                  rw [bvs_len] at hc hu1
                  have HM2 := Lib.hid hmem2
                  have HT2 := Lib.hid hts2
                  have htl' : decide ((t : Int) < (D.l.length : Int)) = true := by rw [decide_eq_true_iff]; omega
                  clear hX hmem2 hts2
                  by_cases f5 : 200 < X.length
                  · have HF := Lib.hid (farB_far HM.out (fun h => by have := h.r X HM2.out; omega))
                    go_wp2_with fail
                    go_ret
                    exact ⟨ret_bool HF.out.symm, rfl⟩
                  · have g5 : X.length ≤ 200 := by omega
                    clear f5
                    go_wp2_with fail
                    go_roundg (gk - 1)
                    case measure => omega
                    case rel =>
                      refine ⟨t + 1, by omega, by go_num, ?_, rfl⟩
                      rw [HT2.out]
                      intro x hx
                      rw [List.mem_append] at hx
                      rcases hx with hx | hx
                      · exact HS.out x hx
                      · simp only [List.mem_singleton] at hx
                        rw [hx]; exact g5
                · obtain rfl : t = D.l.length := by omega
                  have htl' : decide ((D.l.length : Int) < (D.l.length : Int)) = false := by rw [decide_eq_false_iff_not]; omega
                  go_wp2_with fail
                  go_roundg (go1 - 1)
                  case measure => omega
                  case rel =>
                    refine ⟨r + 1, by omega, by go_num, ?_, rfl⟩
                    rw [HT.out]
                    intro d hd
                    rw [List.mem_append] at hd
                    rcases hd with hd | hd
                    · exact HN.out d hd
                    · simp only [List.mem_singleton] at hd
                      subst hd
                      exact ⟨g1, g2, g3, g4, by have := HS.out; rw [List.take_length] at this; exact this⟩
    · obtain rfl : r = k := by omega
      have HF := Lib.hid (farB_near (ds := ds) (by have := HN.out; rw [HK.out, List.take_length] at this; exact this))
      have hrk' : decide ((r : Int) < (r : Int)) = false := by rw [decide_eq_false_iff_not]; omega
      go_wp2_with fail
      go_ret
      refine ⟨ret_bool ?_, rfl⟩
      rw [HF.out, ← HK.out]
      apply decide_eq_decide.2
      omega
end Go.Proofs.Ytkihcngllhjabaa
