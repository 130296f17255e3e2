/- Walks: the reference's Vec, List; wire.PutVec, wire.PutList. -/
import Derived.Test.YtkihcngllhjabaaWireAlive
namespace Go.Proofs.Ytkihcngllhjabaa
open Go.RowKit WireM
set_option linter.unusedVariables false
/-- a vector's bytes -/
def vecB (v : List Nat) : List Nat := lenB v.length ++ v
def catB (l : List (List Nat)) : List Nat := (l.map vecB).flatten
def listB (l : List (List Nat)) : List Nat := vecB (catB l)
/-- v is a slice of slices that read as the rows -/
def RdL (w : World) (v : Value) (rows : List (List Nat)) : Prop :=
  ∃ vs : List Value, Rd w v vs ∧ vs.length = rows.length ∧ ∀ (i : Nat) r, rows[i]? = some r → ∃ u, vs[i]? = some u ∧ Rd w u (bvs r)
theorem RdL.below {w w' : World} {B : Nat} {v : Value} {rows : List (List Nat)} (h : RdL w v rows) (hb : Below B w w') (hB : w.heap.size ≤ B) : RdL w' v rows := by
  obtain ⟨vs, h1, h2, h3⟩ := h
  refine ⟨vs, h1.below hb hB, h2, ?_⟩
  intro i r hr
  obtain ⟨u, h4, h5⟩ := h3 i r hr
  exact ⟨u, h4, h5.below hb hB⟩
theorem vecB_len (v : List Nat) (h : v.length < 1073741824) : (vecB v).length ≤ v.length + 4 := by
  rw [vecB, List.length_append, lenB_len h]
  unfold lenS
  split <;> (try split) <;> (try split) <;> omega
theorem vecB_lt {v : List Nat} (h : v.length < 1073741824) (hv : ∀ n ∈ v, n < 256) : ∀ n ∈ vecB v, n < 256 := by
  intro n hn
  rw [vecB, List.mem_append] at hn
  rcases hn with hn | hn
  · exact lenB_lt h n hn
  · exact hv n hn
set_option maxRecDepth 100000 in
set_option maxHeartbeats 1000000 in
theorem rvec_any (v : Value) (L : List Nat) (w : World) (h : Rd w v (bvs L)) (hl : L.length < 1073741824) :
    Calls Try.prog 40 #[v] w fun e w' => ∃ v', e = .returned v' ∧ Own w' w.heap.size 5 v' (bvs (vecB L)) ∧ Below w.heap.size w w' := by
  have HN := Lib.hid (rlen_any L.length w hl)
  have e2 : (lenB L.length).length ≤ 4 := by
    rw [lenB_len hl]; unfold lenS; split <;> (try split) <;> (try split) <;> omega
  obtain ⟨a, cap, rfl, _⟩ := id h
  rw [bvs_len] at h ⊢
  have HR := Lib.hid h
  clear h
  go_enter Try.func40, Try.ntmps40
  go_wp2_with fail
  refine HN.out.mono ?_
  rintro e w1 ⟨v1, rfl, hown, hb⟩
  have HO := Lib.hid hown
  have HB := Lib.hid hb
  have HR1 := Lib.hid (HR.out.below hb (Nat.le_refl _))
  have hsz := hb.size
  clear hown hb
  go_wp2_with (at_builtin; refine wpList_app rfl (.tmp 5) (.tmp 6) 22 rfl w.heap.size 5 _ 1 bytesE _ _ rfl HO.out _ (bvs L) rfl HR1.out (bvs_one _) ?c2 ?c3 ?_)
  case c2 => rw [bvs_len, bvs_len]; omega
  case c3 => exact hsz
  rintro v2 w2 hown - hb2
  have HO2 := Lib.hid hown
  have HB2 := Lib.hid (HB.out.trans hb2)
  clear hown hb2
  go_wp2_with fail
  go_ret
  refine ⟨_, rfl, ?_, HB2.out⟩
  rw [vecB, bvs_append]
  exact HO2.out
set_option maxRecDepth 100000 in
set_option maxHeartbeats 1000000 in
theorem putVec_any (b v : Value) (B L : List Nat) (w : World) (hb : Rd w b (bvs B)) (h : Rd w v (bvs L)) (hB : B.length < 274877906944) (hl : L.length < 1073741824) :
    Calls Try.prog 72 #[b, v] w fun e w' => ∃ v', e = .returned v' ∧ Own w' w.heap.size 5 v' (bvs (B ++ vecB L)) ∧ Below w.heap.size w w' := by
  have HN := Lib.hid (putLen_on b B L.length w hb (by omega) hl)
  have e2 : (lenB L.length).length ≤ 4 := by
    rw [lenB_len hl]; unfold lenS; split <;> (try split) <;> (try split) <;> omega
  obtain ⟨a, cap, rfl, _⟩ := id h
  rw [bvs_len] at h ⊢
  have HR := Lib.hid h
  clear h hb
  go_enter Try.func72, Try.ntmps72
  go_wp2_with fail
  refine HN.out.mono ?_
  rintro e w1 ⟨v1, rfl, hown, hb⟩
  have HO := Lib.hid hown
  have HB := Lib.hid hb
  have HR1 := Lib.hid (HR.out.below hb (Nat.le_refl _))
  have hsz := hb.size
  clear hown hb
  go_wp2_with (at_builtin; refine wpList_app rfl (.tmp 8) (.tmp 9) 22 rfl w.heap.size 5 _ 1 bytesE _ _ rfl HO.out _ (bvs L) rfl HR1.out (bvs_one _) ?c2 ?c3 ?_)
  case c2 => rw [bvs_len, bvs_len, List.length_append]; omega
  case c3 => exact hsz
  rintro v2 w2 hown - hb2
  have HO2 := Lib.hid hown
  have HB2 := Lib.hid (HB.out.trans hb2)
  clear hown hb2
  go_wp2_with fail
  go_ret
  refine ⟨_, rfl, ?_, HB2.out⟩
  rw [vecB, ← List.append_assoc, bvs_append]
  exact HO2.out
theorem catB_snoc (l : List (List Nat)) (r : List Nat) : catB (l ++ [r]) = catB l ++ vecB r := by simp [catB]
theorem catB_len : ∀ (l : List (List Nat)), (∀ r ∈ l, r.length ≤ 200) → (catB l).length ≤ l.length * 204 := by
  intro l
  induction l with
  | nil => intro _; simp [catB]
  | cons r l ih =>
    intro h
    have h1 := ih fun q hq => h q (by simp [hq])
    have h2 := vecB_len r (by have := h r (by simp); omega)
    have h3 := h r (by simp)
    simp only [catB, List.map_cons, List.flatten_cons, List.length_append, List.length_cons] at h1 ⊢
    omega
theorem rows_snoc {l : List (List Nat)} {r : Nat} (h : r < l.length) : l.take (r + 1) = l.take r ++ [l[r]] := List.take_succ_eq_append_getElem h
theorem RdL.cases {w : World} {v : Value} {rows : List (List Nat)} (h : RdL w v rows) :
    ∃ a cap, v = .slice a rows.length cap ∧ rows.length ≤ cap ∧ cap ≤ maxLen ∧ ∀ i (hi : i < rows.length), ∃ b off u, a = some ⟨b, off, none⟩ ∧ b < w.heap.size ∧ w.cell? ⟨b, off + i, none⟩ = some u ∧ Rd w u (bvs rows[i]) := by
  obtain ⟨vs, h1, h2, h3⟩ := h
  obtain ⟨a, cap, rfl, h4, h5, h6⟩ := h1
  rw [h2] at h4
  refine ⟨a, cap, by rw [h2], h4, h5, ?_⟩
  intro i hi
  obtain ⟨u, hu, hr⟩ := h3 i _ (List.getElem?_eq_getElem hi)
  rcases h6 with ⟨h6, _⟩ | ⟨b, off, rfl, hc⟩
  · rw [h6] at h2; simp at h2; omega
  · have := hc i u hu
    exact ⟨b, off, u, rfl, World.block_lt_of_cell? w _ this, this, hr⟩
set_option maxRecDepth 100000 in
set_option maxHeartbeats 2000000 in
theorem rlist_any (v : Value) (rows : List (List Nat)) (w : World) (h : RdL w v rows) (hl : rows.length ≤ 20) (hr : ∀ r ∈ rows, r.length ≤ 200) :
    Calls Try.prog 81 #[v] w fun e w' => ∃ v', e = .returned v' ∧ Own w' w.heap.size 5 v' (bvs (listB rows)) ∧ Below w.heap.size w w' := by
  obtain ⟨a, cap, rfl, h1, h2, h3⟩ := h.cases
  have hcl : ∀ r, (catB (rows.take r)).length ≤ 4080 := by
    intro r
    have := catB_len (rows.take r) (fun q hq => hr q (List.mem_of_mem_take hq))
    have h4 : (rows.take r).length ≤ 20 := by rw [List.length_take]; omega
    omega
  obtain ⟨k, hk⟩ : ∃ k, k = rows.length := ⟨_, rfl⟩
  rw [← hk] at h1 hl ⊢
  have H3 := Lib.hid h3
  have HK := Lib.hid hk
  have HR := Lib.hid hr
  have HCL := Lib.hid hcl
  clear h h3 hk hr hcl
  go_enter Try.func81, Try.ntmps81
  go_wp2_with fail
  go_loopg [3, 4] k (fun q out i wr => ∃ r : Nat, r + q = k ∧ i = .int .i64 (r : Int) ∧ Own wr w.heap.size 5 out (bvs (catB (rows.take r))) ∧ Below w.heap.size w wr)
  case atStart => exact ⟨0, by omega, rfl, Own.nil _ _ _, Below.refl _ _⟩
  case round =>
    obtain ⟨r, hr, rfl, hown, hb⟩ := hrel
    have HO := Lib.hid hown
    have HB := Lib.hid hb
    have hsz := hb.size
    clear hown hb
    by_cases hrk : r < k
    · have hrl : r < rows.length := by have := HK.out; omega
      obtain ⟨b, off, u, rfl, hbl, hc, hrd⟩ := H3.out r hrl
      have c0 := (HB.out.cell (p := ⟨b, off + r, none⟩) hbl).trans hc
      have hlen := HR.out _ (List.getElem_mem hrl)
      have hrd' := hrd.below HB.out (Nat.le_refl _)
      have hs := rows_snoc hrl
      obtain ⟨x, hx⟩ : ∃ x, x = rows[r] := ⟨_, rfl⟩
      rw [← hx] at hlen hrd' hs
      have HV := Lib.hid (rvec_any u x _ hrd' (by omega))
      have hvl := vecB_len x (by omega)
      have hcl := HCL.out r
      have HS := Lib.hid hs
      clear hrd hrd' hs hx hc
      go_wp2_with fail
      refine HV.out.mono ?_
      rintro e w2 ⟨v2, rfl, hown2, hb2⟩
      have HO2 := Lib.hid hown2.rd
      have HO1 := Lib.hid (HO.out.below hb2 (Nat.le_refl _))
      have HB2 := Lib.hid (Below.next HB.out hb2)
      have hsz2 := HB2.out.size
      clear hown2 hb2
      go_wp2_with (at_builtin; refine wpList_app rfl (.tmp 11) (.tmp 16) 22 rfl w.heap.size 5 _ 1 bytesE _ _ rfl HO1.out _ (bvs (vecB x)) rfl HO2.out (bvs_one _) ?c2 ?c3 ?_)
      case c2 => rw [bvs_len, bvs_len]; omega
      case c3 => exact hsz2
      rintro v3 w3 hown3 - hb3
      have HO3 := Lib.hid hown3
      have HB3 := Lib.hid (HB2.out.trans hb3)
      clear hown3 hb3
      go_wp2_with fail
      go_roundg (gk - 1)
      case measure => omega
      case rel =>
        refine ⟨r + 1, by omega, by go_num, ?_, HB3.out⟩
        rw [HS.out, catB_snoc, bvs_append]
        exact HO3.out
    · obtain rfl : r = k := by omega
      have hcl := HCL.out r
      have HV := Lib.hid (rvec_any _ _ _ HO.out.rd (by omega))
      go_wp2_with fail
      refine HV.out.mono ?_
      rintro e w2 ⟨v2, rfl, hown2, hb2⟩
      have HO2 := Lib.hid hown2
      have HB2 := Lib.hid (Below.next HB.out hb2)
      clear hown2 hb2
      go_wp2_with fail
      go_ret
      refine ⟨_, rfl, ?_, HB2.out⟩
      have e : listB rows = vecB (catB (rows.take r)) := by rw [listB, List.take_of_length_le (by have := HK.out; omega)]
      rw [e]
      exact HO2.out.mono hsz
set_option maxRecDepth 100000 in
set_option maxHeartbeats 2000000 in
theorem putList_any (b v : Value) (B : List Nat) (rows : List (List Nat)) (w : World) (hb : Rd w b (bvs B)) (hB : B.length < 274877906944) (h : RdL w v rows) (hl : rows.length ≤ 20) (hr : ∀ r ∈ rows, r.length ≤ 200) :
    Calls Try.prog 80 #[b, v] w fun e w' => ∃ v', e = .returned v' ∧ Own w' w.heap.size 5 v' (bvs (B ++ listB rows)) ∧ Below w.heap.size w w' := by
  obtain ⟨a, cap, rfl, h1, h2, h3⟩ := h.cases
  have hcl : ∀ r, (catB (rows.take r)).length ≤ 4080 := by
    intro r
    have := catB_len (rows.take r) (fun q hq => hr q (List.mem_of_mem_take hq))
    have h4 : (rows.take r).length ≤ 20 := by rw [List.length_take]; omega
    omega
  obtain ⟨k, hk⟩ : ∃ k, k = rows.length := ⟨_, rfl⟩
  rw [← hk] at h1 hl ⊢
  have H3 := Lib.hid h3
  have HK := Lib.hid hk
  have HR := Lib.hid hr
  have HCL := Lib.hid hcl
  have HBB := Lib.hid hb
  clear h h3 hk hr hcl hb
  go_enter Try.func80, Try.ntmps80
  go_wp2_with fail
  go_loopg [5, 10] k (fun q out i wr => ∃ r : Nat, r + q = k ∧ i = .int .i64 (r : Int) ∧ Own wr w.heap.size 5 out (bvs (catB (rows.take r))) ∧ Below w.heap.size w wr)
  case atStart => exact ⟨0, by omega, rfl, Own.nil _ _ _, Below.refl _ _⟩
  case round =>
    obtain ⟨r, hr, rfl, hown, hb⟩ := hrel
    have HO := Lib.hid hown
    have HB := Lib.hid hb
    have hsz := hb.size
    clear hown hb
    by_cases hrk : r < k
    · have hrl : r < rows.length := by have := HK.out; omega
      obtain ⟨b, off, u, rfl, hbl, hc, hrd⟩ := H3.out r hrl
      have c0 := (HB.out.cell (p := ⟨b, off + r, none⟩) hbl).trans hc
      have hlen := HR.out _ (List.getElem_mem hrl)
      have hrd' := hrd.below HB.out (Nat.le_refl _)
      have hs := rows_snoc hrl
      obtain ⟨x, hx⟩ : ∃ x, x = rows[r] := ⟨_, rfl⟩
      rw [← hx] at hlen hrd' hs
      have HV := Lib.hid (putVec_any (.slice none 0 0) u [] x _ (nil_rd _) hrd' (by simp) (by omega))
      have hvl := vecB_len x (by omega)
      have hcl := HCL.out r
      have HS := Lib.hid hs
      clear hrd hrd' hs hx hc
      go_wp2_with fail
      refine HV.out.mono ?_
      rintro e w2 ⟨v2, rfl, hown2, hb2⟩
      rw [List.nil_append] at hown2
      have HO2 := Lib.hid hown2.rd
      have HO1 := Lib.hid (HO.out.below hb2 (Nat.le_refl _))
      have HB2 := Lib.hid (Below.next HB.out hb2)
      have hsz2 := HB2.out.size
      clear hown2 hb2
      go_wp2_with (at_builtin; refine wpList_app rfl (.tmp 14) (.tmp 16) 22 rfl w.heap.size 5 _ 1 bytesE _ _ rfl HO1.out _ (bvs (vecB x)) rfl HO2.out (bvs_one _) ?c2 ?c3 ?_)
      case c2 => rw [bvs_len, bvs_len]; omega
      case c3 => exact hsz2
      rintro v3 w3 hown3 - hb3
      have HO3 := Lib.hid hown3
      have HB3 := Lib.hid (HB2.out.trans hb3)
      clear hown3 hb3
      go_wp2_with fail
      go_roundg (gk - 1)
      case measure => omega
      case rel =>
        refine ⟨r + 1, by omega, by go_num, ?_, HB3.out⟩
        rw [HS.out, catB_snoc, bvs_append]
        exact HO3.out
    · obtain rfl : r = k := by omega
      have hcl := HCL.out r
      have HV := Lib.hid (putVec_any b _ B _ _ (HBB.out.below HB.out (Nat.le_refl _)) HO.out.rd hB (by omega))
      go_wp2_with fail
      refine HV.out.mono ?_
      rintro e w2 ⟨v2, rfl, hown2, hb2⟩
      have HO2 := Lib.hid hown2
      have HB2 := Lib.hid (Below.next HB.out hb2)
      clear hown2 hb2
      go_wp2_with fail
      go_ret
      refine ⟨_, rfl, ?_, HB2.out⟩
      have e : listB rows = vecB (catB (rows.take r)) := by rw [listB, List.take_of_length_le (by have := HK.out; omega)]
      rw [e]
      exact HO2.out.mono hsz
end Go.Proofs.Ytkihcngllhjabaa
