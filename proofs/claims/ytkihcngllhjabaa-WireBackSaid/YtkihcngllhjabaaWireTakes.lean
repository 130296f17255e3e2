/- Walks: a reader's List; nobody's reader; two lists of lists. -/
import Derived.Test.YtkihcngllhjabaaWireMore
import Derived.Deep.QuietTactic
import Derived.BigQuiet
namespace Go.Proofs.Ytkihcngllhjabaa
open Go.RowKit WireM
set_option linter.unusedVariables false
theorem catB_cons (r : List Nat) (l : List (List Nat)) : catB (r :: l) = vecB r ++ catB l := by simp [catB]
theorem catB_drop {l : List (List Nat)} {r : Nat} (h : r < l.length) : catB (l.drop r) = vecB l[r] ++ catB (l.drop (r + 1)) := by
  rw [← catB_cons, List.drop_eq_getElem_cons h]
theorem catB_end (l : List (List Nat)) : catB (l.drop l.length) = [] := by simp [catB]
def ListP (B : Nat) (w : World) (l : List (List Nat)) (R : List Nat) (e : Ending) (w' : World) : Prop :=
  ∃ v, e = .returned v ∧ GridB w' w.heap.size v l ∧ RS w' B R 0 ∧ Only B w w'
set_option maxRecDepth 100000 in
set_option maxHeartbeats 4000000 in
theorem list_on (B : Nat) (l : List (List Nat)) (R : List Nat) (w : World) (h : RS w B (listB l ++ R) 0) (hl : l.length ≤ 20) (hr : ∀ r ∈ l, r.length ≤ 200) (hlt : ∀ r ∈ l, ∀ x ∈ r, x < 256) (hR : R.length < 1000000) (hR2 : ∀ x ∈ R, x < 256) :
    Calls Try.prog 82 #[.pointer (some ⟨B, 0, none⟩)] w (ListP B w l R) := by
  have hcl := catB_len l hr
  have hcb : ∀ x ∈ catB l, x < 256 := by
    intro x hx
    simp only [catB, List.mem_flatten, List.mem_map] at hx
    obtain ⟨y, ⟨r, hr', rfl⟩, hx⟩ := hx
    exact vecB_lt (by have := hr r hr'; omega) (hlt r hr') x hx
  have hvl := vecB_len (catB l) (by omega)
  have V := vec_any B (listB l ++ R) 0 w h (by rw [List.length_append]; unfold listB; omega) (by
    intro n hn
    rw [List.mem_append] at hn
    rcases hn with hn | hn
    · exact vecB_lt (by omega) hcb n hn
    · exact hR2 n hn)
  rw [listB, vecF_put (by omega) R] at V
  have VI : ∀ (r : Nat) (hr' : r < l.length) (C : Nat) (w : World), RS w C (catB (l.drop r)) 0 → Calls Try.prog 46 #[.pointer (some ⟨C, 0, none⟩)] w (TakeP C w (l[r], catB (l.drop (r + 1)), 0)) := by
    intro r hr' C w hC
    have h1 := catB_len (l.drop r) (fun x hx => hr x (List.mem_of_mem_drop hx))
    have h2 : (l.drop r).length ≤ 20 := by rw [List.length_drop]; omega
    have := vec_any C (catB (l.drop r)) 0 w hC (by omega) (by
      intro n hn
      apply hcb n
      simp only [catB, List.mem_flatten, List.mem_map] at hn ⊢
      obtain ⟨y, ⟨q, hq, rfl⟩, hn⟩ := hn
      exact ⟨_, ⟨q, List.mem_of_mem_drop hq, rfl⟩, hn⟩)
    rw [catB_drop hr', vecF_put (by have := hr _ (List.getElem_mem hr'); omega)] at this
    exact this
  have hpos : ∀ r, r < l.length → 0 < (catB (l.drop r)).length := by
    intro r hr'
    rw [catB_drop hr', List.length_append, vecB, List.length_append, lenB_len (by have := hr _ (List.getElem_mem hr'); omega)]
    have : 0 < lenS (l[r].length : Nat) := by
      unfold lenS
      have := hr _ (List.getElem_mem hr')
      rw [if_neg (by omega)]
      split
      · omega
      · split <;> omega
    omega
  have hen := catB_end l
  have hts := fun (r : Nat) (h : r < l.length) => rows_snoc (l := l) h
  obtain ⟨k, hk⟩ : ∃ k, k = l.length := ⟨_, rfl⟩
  rw [← hk] at hl hen
  have HV := Lib.hid V
  have HVI := Lib.hid VI
  have HPOS := Lib.hid hpos
  have HEN := Lib.hid hen
  have HTS := Lib.hid hts
  have HK := Lib.hid hk
  have hB := h.lt
  clear V VI hpos hen hts hk hcl hcb hvl hr hlt hR hR2 h
  go_enter Try.func82, Try.ntmps82
  go_wp2_with fail
  refine HV.out.mono ?_
  rintro e w1 ⟨v1, rfl, hown, h1, h2⟩
  have HN := Lib.hid (newReader_any v1 (catB l) w1 hown.rd)
  have H1 := Lib.hid h1
  have H2 := Lib.hid h2
  have hs1 := h2.size
  clear hown h1 h2
  go_wp2_with fail
  refine HN.out.mono ?_
  rintro e w2 ⟨rfl, h3, h4⟩
  have H3 := Lib.hid h3
  have H4 := Lib.hid h4
  have hC : w1.heap.size < w2.heap.size := h3.lt
  have HRS := Lib.hid (H1.out.low h4 (by omega))
  obtain ⟨C, hCC⟩ : ∃ C, C = w1.heap.size := ⟨_, rfl⟩
  rw [← hCC] at H3 hC hs1 ⊢
  have HC := Lib.hid hCC
  clear h3 h4 hCC
  have HO2 := Lib.hid (H2.out.trans (Only.of H4.out))
  go_wp2_with fail
  go_loopg [4] k (fun q lv wr => ∃ r : Nat, r + q = k ∧ GridB wr (C + 1) lv (l.take r) ∧ RS wr C (catB (l.drop r)) 0 ∧ Below C w2 wr)
  case atStart => exact ⟨0, by omega, Grid.nil _ _ _ _, by rw [List.drop_zero]; exact H3.out, Below.refl _ _⟩
  case round =>
    obtain ⟨r, hrq, hg, hrs, ho⟩ := hrel
    have HG := Lib.hid hg
    have HR := Lib.hid hrs
    have HO := Lib.hid ho
    have hso := ho.size
    clear hg hrs ho
    by_cases hrk : r < k
    · have hrl : r < l.length := by have := HK.out; omega
      have hp := HPOS.out r hrl
      have HL := Lib.hid (left_any C _ _ wr HR.out)
      have HVV := Lib.hid (HVI.out r hrl C wr HR.out)
      have hts := HTS.out r hrl
      obtain ⟨n, hn⟩ : ∃ n, n = (catB (l.drop r)).length := ⟨_, rfl⟩
      rw [← hn] at hp HL
      obtain ⟨x, hx⟩ : ∃ x, x = l[r] := ⟨_, rfl⟩
      rw [← hx] at HVV hts
      have HTS1 := Lib.hid hts
      have hlen : (l.take r).length ≤ r := List.length_take_le _ _
      clear hts hn hx
      go_wp2_with fail
      refine HL.out.mono ?_
      rintro e w' ⟨rfl, rfl⟩
      go_wp2_with fail
      refine HVV.out.mono ?_
      rintro e w3 ⟨v3, rfl, hown, h5, h6⟩
      obtain ⟨a3, n3, c3, rfl⟩ : ∃ a n c, v3 = .slice a n c := by
        rcases hown.form with rfl | ⟨g, cap, rfl⟩
        · exact ⟨_, _, _, rfl⟩
        · exact ⟨_, _, _, rfl⟩
      have HW := Lib.hid hown
      have H5 := Lib.hid h5
      have H6 := Lib.hid h6
      have hs3 := h6.size
      have k1 : w3.cell? ⟨C, 1, none⟩ = some (.int .u8 0) := by
        obtain ⟨v, hb, _⟩ := h5
        exact hb.cell 1
      have HG3 := Lib.hid ((HG.out.only h6 (Nat.lt_succ_self _)).alloc (.cells #[.slice a3 n3 c3] 22))
      clear hown h5 h6
      go_wp2_with (at_builtin; refine wpList_pushRow rfl (.tmp 21) (.tmp 23) 75 rfl (C + 1) 22 5 _ 24 rowsE (by decide) _ _ rfl HG3.out ⟨w3.heap.size, 0, none⟩ (.slice a3 n3 c3) (bvs x) rfl (cell_new rfl) ((HW.out.alloc _).mono (by omega)) ?c1 ?c2 ?_)
      case c1 => rw [List.length_map]; omega
      case c2 => simp; omega
      rintro v4 w4 hg4 hb4
      have HG4 := Lib.hid hg4
      have HR4 := Lib.hid ((H5.out.low ((Below.refl w3.heap.size _).alloc (Nat.le_refl _) (.cells #[.slice a3 n3 c3] 22)) (by omega)).low hb4 (Nat.lt_succ_self _))
      have HO4 := Lib.hid (((HO.out.trans (H6.out.below (Nat.le_refl _) (by omega))).alloc (by omega) (.cells #[.slice a3 n3 c3] 22)).trans (hb4.mono (Nat.le_succ _)))
      clear hg4 hb4
      go_wp2_with fail
      go_roundg (gk - 1)
      case measure => omega
      case rel =>
        refine ⟨r + 1, by omega, ?_, HR4.out, HO4.out⟩
        rw [HTS1.out, GridB, List.map_append, List.map_take]
        exact HG4.out
    · obtain rfl : r = k := by omega
      have HL := Lib.hid (left_any C _ _ wr HR.out)
      rw [HEN.out] at HL
      go_wp2_with fail
      refine HL.out.mono ?_
      rintro e w' ⟨rfl, rfl⟩
      go_wp2_with fail
      go_ret
      refine ⟨_, rfl, ?_, HRS.out.low HO.out (by omega), H2.out.trans (Only.of (H4.out.trans (by rw [← HC.out]; exact HO.out)))⟩
      have hg := HG.out
      rw [HK.out, List.take_length] at hg
      exact Grid.mono hg (by omega)
end Go.Proofs.Ytkihcngllhjabaa
