/- Walks: the reference's Right of nodes. -/
import Derived.Test.YtlcmodbjbdfloaaZTreeAdds11
import Derived.Test.YtlcmodbjbdfloaaZTreeAdds08
import Derived.Test.YtlcmodbjbdfloaaZTreeAdds05
namespace Go.Proofs.Ytlcmodbjbdfloaa
open Go.RowKit WireM
set_option linter.unusedVariables false
def noLeafD : LeafD := ⟨[], [], [], 0, [], []⟩
def noParD : ParD := ⟨[], [], []⟩
def noNodeD : NodeD := ⟨0, noLeafD, noParD⟩
theorem rd_nil (w : World) : Rd w (.slice none 0 0) (bvs []) := ⟨none, 0, rfl, Nat.le_refl _, Nat.zero_le _, .inl ⟨rfl, fun _ => rfl⟩⟩
theorem rd_nili (w : World) : Rd w (.slice none 0 0) (ivs .i64 []) := ⟨none, 0, rfl, Nat.le_refl _, Nat.zero_le _, .inl ⟨rfl, fun _ => rfl⟩⟩
theorem noNode_c (w : World) : NodeC w noNodeD #[.int .u8 0, .slice none 0 0, .slice none 0 0, .slice none 0 0, .int .u8 0, .slice none 0 0, .slice none 0 0, .slice none 0 0, .slice none 0 0, .slice none 0 0] :=
  ⟨none, 0, none, 0, none, 0, none, 0, none, 0, none, 0, none, 0, none, 0, rfl, rd_nil w, rd_nil w, rd_nil w, rd_nil w, rd_nil w, rd_nil w, rd_nil w, rd_nili w⟩
theorem noNode_ok : NodeOk noNodeD := by constructor <;> simp [noNodeD, noLeafD, noParD]
theorem sameL_no (d : LeafD) : sameNB ⟨0, d, noParD⟩ noNodeD = nlB d.box.length d.sign.length d.ident.length d.source d.par.length d.sig.length := by
  rw [sameNB, nlB]
  apply decide_eq_decide.2
  have e : sameLB d noLeafD = true ↔ (d.box = [] ∧ d.sign = [] ∧ d.ident = [] ∧ d.source = 0 ∧ d.par = [] ∧ d.sig = []) := by
    unfold sameLB; rw [decide_eq_true_iff]; exact Iff.rfl
  constructor
  · rintro ⟨_, h, _⟩
    obtain ⟨h1, h2, h3, h4, h5, h6⟩ := e.1 h
    rw [h1, h2, h3, h4, h5, h6]
    exact ⟨rfl, rfl⟩
  · rintro ⟨h1, h2⟩
    exact ⟨rfl, e.2 ⟨List.eq_nil_of_length_eq_zero (by omega), List.eq_nil_of_length_eq_zero (by omega), List.eq_nil_of_length_eq_zero (by omega), h1, List.eq_nil_of_length_eq_zero (by omega), List.eq_nil_of_length_eq_zero (by omega)⟩, rfl, rfl, rfl⟩
theorem sameP_no (p : ParD) : sameNB ⟨0, noLeafD, p⟩ noNodeD = npB p.box.length p.hash.length p.late.length := by
  rw [sameNB, npB]
  apply decide_eq_decide.2
  have hl : sameLB noLeafD noLeafD = true := by decide
  constructor
  · rintro ⟨_, _, h1, h2, h3⟩
    have h1' : p.box = [] := h1
    have h2' : p.hash = [] := h2
    have h3' : p.late = [] := h3
    rw [h1', h2', h3']
    rfl
  · intro h
    have h' : p.box.length + p.hash.length + p.late.length = 0 := h
    have q1 : p.box = [] := List.eq_nil_of_length_eq_zero (by omega)
    have q2 : p.hash = [] := List.eq_nil_of_length_eq_zero (by omega)
    have q3 : p.late = [] := List.eq_nil_of_length_eq_zero (by omega)
    exact ⟨rfl, hl, q1, q2, q3⟩
theorem bcell {W w1 : World} (hb : Below W.heap.size W w1) : ∀ b o, b < W.heap.size → w1.cell? ⟨b, o, none⟩ = W.cell? ⟨b, o, none⟩ := fun b o h => hb.cell (p := ⟨b, o, none⟩) h
set_option maxRecDepth 100000 in
set_option maxHeartbeats 8000000 in
theorem rright_any (d : NodeD) (c : Array Value) (w : World) (h : NodeC w d c) (hk : NodeOk d) :
    Calls Try.prog 38 #[.agg c] w fun e w' => e = .returned (.bool (rightB d)) ∧ Below w.heap.size w w' := by
  obtain ⟨a1, c1, a2, c2, a3, c3, a4, c4, a5, c5, b1, e1, b2, e2, b3, e3, rfl, h1, h2, h3, h4, h5, h6, h7, h8⟩ := h
  have SLF := fun W (hw : Below w.heap.size w W) => rsameNode_any ⟨0, d.leaf, noParD⟩ noNodeD _ _ W ⟨a1, c1, a2, c2, a3, c3, a4, c4, a5, c5, none, 0, none, 0, none, 0, rfl, h1.below hw (Nat.le_refl _), h2.below hw (Nat.le_refl _), h3.below hw (Nat.le_refl _), h4.below hw (Nat.le_refl _), h5.below hw (Nat.le_refl _), rd_nil W, rd_nil W, rd_nili W⟩
    (noNode_c W) ⟨by simp, hk.source, hk.box, hk.sign, hk.ident, hk.par, hk.sig, by simp [noParD], by simp [noParD], by simp [noParD]⟩ noNode_ok
  have SPR := fun W (hw : Below w.heap.size w W) => rsameNode_any ⟨0, noLeafD, d.par⟩ noNodeD _ _ W ⟨none, 0, none, 0, none, 0, none, 0, none, 0, b1, e1, b2, e2, b3, e3, rfl, rd_nil W, rd_nil W, rd_nil W, rd_nil W, rd_nil W, h6.below hw (Nat.le_refl _), h7.below hw (Nat.le_refl _), h8.below hw (Nat.le_refl _)⟩
    (noNode_c W) ⟨by simp, by simp [noLeafD], by simp [noLeafD], by simp [noLeafD], by simp [noLeafD], by simp [noLeafD], by simp [noLeafD], hk.pbox, hk.hash, hk.late⟩ noNode_ok
  simp only [sameL_no] at SLF
  simp only [sameP_no] at SPR
  have RL := fun W => rrightLeaf_any a1 a2 a3 a4 a5 d.leaf.box.length d.leaf.sign.length d.leaf.ident.length d.leaf.par.length d.leaf.sig.length c1 c2 c3 c4 c5 d.leaf.source W
  have RP := fun W (hw : Below w.heap.size w W) => rrightParent_any b1 b2 b3 d.par.box.length d.par.hash.length e1 e2 e3 d.par.late W (h8.below hw (Nat.le_refl _))
  have hB : rightB d = (if d.kind = 0 then nlB d.leaf.box.length d.leaf.sign.length d.leaf.ident.length d.leaf.source d.leaf.par.length d.leaf.sig.length && npB d.par.box.length d.par.hash.length d.par.late.length
    else if d.kind = 1 then rlB d.leaf.box.length d.leaf.sign.length d.leaf.ident.length d.leaf.source d.leaf.par.length d.leaf.sig.length && npB d.par.box.length d.par.hash.length d.par.late.length
    else if d.kind = 2 then nlB d.leaf.box.length d.leaf.sign.length d.leaf.ident.length d.leaf.source d.leaf.par.length d.leaf.sig.length && rpB d.par.box.length d.par.hash.length d.par.late else false) := rfl
  rw [hB]
  simp only [show noLeafD.box = [] from rfl, show noLeafD.sign = [] from rfl, show noLeafD.ident = [] from rfl, show noLeafD.source = 0 from rfl, show noLeafD.par = [] from rfl, show noLeafD.sig = [] from rfl, show noParD.box = [] from rfl, show noParD.hash = [] from rfl, show noParD.late = [] from rfl, List.length_nil] at SLF SPR
  obtain ⟨m1, hm1⟩ : ∃ b, b = d.leaf.box.length := ⟨_, rfl⟩
  obtain ⟨m2, hm2⟩ : ∃ b, b = d.leaf.sign.length := ⟨_, rfl⟩
  obtain ⟨m3, hm3⟩ : ∃ b, b = d.leaf.ident.length := ⟨_, rfl⟩
  obtain ⟨m4, hm4⟩ : ∃ b, b = d.leaf.par.length := ⟨_, rfl⟩
  obtain ⟨m5, hm5⟩ : ∃ b, b = d.leaf.sig.length := ⟨_, rfl⟩
  obtain ⟨m6, hm6⟩ : ∃ b, b = d.par.box.length := ⟨_, rfl⟩
  obtain ⟨m7, hm7⟩ : ∃ b, b = d.par.hash.length := ⟨_, rfl⟩
  obtain ⟨m8, hm8⟩ : ∃ b, b = d.par.late.length := ⟨_, rfl⟩
  obtain ⟨src, hsrc⟩ : ∃ b, b = d.leaf.source := ⟨_, rfl⟩
  obtain ⟨kd, hkd⟩ : ∃ b, b = d.kind := ⟨_, rfl⟩
  rw [← hm1, ← hm2, ← hm3, ← hm4, ← hm5, ← hsrc] at RL
  rw [← hm6, ← hm7, ← hm8] at RP
  rw [← hm1, ← hm2, ← hm3, ← hm4, ← hm5, ← hsrc] at SLF
  rw [← hm6, ← hm7, ← hm8] at SPR
  rw [← hm1, ← hm2, ← hm3, ← hm4, ← hm5, ← hm6, ← hm7, ← hm8, ← hsrc, ← hkd]
  obtain ⟨rl, hrl⟩ : ∃ b, b = rlB m1 m2 m3 src m4 m5 := ⟨_, rfl⟩
  obtain ⟨nl, hnl⟩ : ∃ b, b = nlB m1 m2 m3 src m4 m5 := ⟨_, rfl⟩
  obtain ⟨np, hnp⟩ : ∃ b, b = npB m6 m7 m8 := ⟨_, rfl⟩
  obtain ⟨rp, hrp⟩ : ∃ b, b = rpB m6 m7 d.par.late := ⟨_, rfl⟩
  rw [← hrl] at RL ⊢
  rw [← hnl] at SLF ⊢
  rw [← hnp] at SPR ⊢
  rw [← hrp] at RP ⊢
  have HSLF := Lib.hid SLF
  have HSPR := Lib.hid SPR
  have HRL := Lib.hid RL
  have HRP := Lib.hid RP
  clear SLF SPR RL RP hB h1 h2 h3 h4 h5 h6 h7 h8 hm1 hm2 hm3 hm4 hm5 hm6 hm7 hm8 hsrc hkd hrl hnl hnp hrp hk
  by_cases k0 : kd = 0
  · subst k0
    rw [if_pos rfl]
    go_enter Try.func38, Try.ntmps38
    go_wp2_with fail
    go_region
    all_goals
      go_wp2_with fail
      refine (HSLF.out _ (by repeat any_goals (first | exact Below.refl _ _ | exact Nat.le_refl _ | refine Below.alloc ?_ ?_ _ | refine Below.draw1 ?_ | refine Below.setCell ?_ ?_ _ | (simp; done) | (simp; omega)))).mono ?_
      rintro e w3 ⟨rfl, hb3⟩
      have hc3 := bcell hb3
      have hz3 := hb3.size
      have HB3 : Hid (Below w.heap.size w w3) := Lib.hid (Below.trans (by repeat any_goals (first | exact Below.refl _ _ | exact Nat.le_refl _ | refine Below.alloc ?_ ?_ _ | refine Below.draw1 ?_ | refine Below.setCell ?_ ?_ _ | (simp; done) | (simp; omega))) (hb3.mono (by simp; omega)))
      clear hb3
      simp only [World.alloc, World.drew, Array.size_push] at hz3
      cases nl with
      | true =>
        have hg0 : w.heap.size < w3.heap.size := by omega
        have hg1 : w.heap.size + 1 < w3.heap.size := by omega
        have hg2 : w.heap.size + 1 + 1 < w3.heap.size := by omega
        go_wp2_with fail
        refine (HSPR.out _ HB3.out).mono ?_
        rintro e w4 ⟨rfl, hb4⟩
        have HB4 := Lib.hid (HB3.out.trans (hb4.mono (by omega)))
        clear hb4
        go_wp2_with fail
        go_ret
        exact ⟨rfl, HB4.out⟩
      | false =>
        go_wp2_with fail
        go_ret
        exact ⟨rfl, HB3.out⟩
  · by_cases k1 : kd = 1
    · subst k1
      rw [if_neg (by omega), if_pos rfl]
      go_enter Try.func38, Try.ntmps38
      go_wp2_with fail
      go_region
      all_goals
        go_wp2_with fail
        refine (HRL.out _).mono ?_
        rintro e w3 ⟨rfl, hb3⟩
        have hc3 := bcell hb3
        have hz3 := hb3.size
        have HB3 : Hid (Below w.heap.size w w3) := Lib.hid (Below.trans (by repeat any_goals (first | exact Below.refl _ _ | exact Nat.le_refl _ | refine Below.alloc ?_ ?_ _ | refine Below.draw1 ?_ | refine Below.setCell ?_ ?_ _ | (simp; done) | (simp; omega))) (hb3.mono (by simp; omega)))
        clear hb3
        simp only [World.alloc, World.drew, Array.size_push] at hz3
        cases rl with
        | true =>
          have hg0 : w.heap.size < w3.heap.size := by omega
          have hg1 : w.heap.size + 1 < w3.heap.size := by omega
          have hg2 : w.heap.size + 1 + 1 < w3.heap.size := by omega
          go_wp2_with fail
          refine (HSPR.out _ HB3.out).mono ?_
          rintro e w4 ⟨rfl, hb4⟩
          have HB4 := Lib.hid (HB3.out.trans (hb4.mono (by omega)))
          clear hb4
          go_wp2_with fail
          go_ret
          exact ⟨rfl, HB4.out⟩
        | false =>
          go_wp2_with fail
          go_ret
          exact ⟨rfl, HB3.out⟩
    · by_cases k2 : kd = 2
      · subst k2
        rw [if_neg (by omega), if_neg (by omega), if_pos rfl, Bool.and_comm]
        go_enter Try.func38, Try.ntmps38
        go_wp2_with fail
        go_region
        all_goals
          go_wp2_with fail
          refine (HRP.out _ (by repeat any_goals (first | exact Below.refl _ _ | exact Nat.le_refl _ | refine Below.alloc ?_ ?_ _ | refine Below.draw1 ?_ | refine Below.setCell ?_ ?_ _ | (simp; done) | (simp; omega)))).mono ?_
          rintro e w3 ⟨rfl, hb3⟩
          have hc3 := bcell hb3
          have hz3 := hb3.size
          have HB3 : Hid (Below w.heap.size w w3) := Lib.hid (Below.trans (by repeat any_goals (first | exact Below.refl _ _ | exact Nat.le_refl _ | refine Below.alloc ?_ ?_ _ | refine Below.draw1 ?_ | refine Below.setCell ?_ ?_ _ | (simp; done) | (simp; omega))) (hb3.mono (by simp; omega)))
          clear hb3
          simp only [World.alloc, World.drew, Array.size_push] at hz3
          cases rp with
          | true =>
            have hg0 : w.heap.size < w3.heap.size := by omega
            have hg1 : w.heap.size + 1 < w3.heap.size := by omega
            have hg2 : w.heap.size + 1 + 1 < w3.heap.size := by omega
            go_wp2_with fail
            refine (HSLF.out _ HB3.out).mono ?_
            rintro e w4 ⟨rfl, hb4⟩
            have HB4 := Lib.hid (HB3.out.trans (hb4.mono (by omega)))
            clear hb4
            go_wp2_with fail
            go_ret
            exact ⟨rfl, HB4.out⟩
          | false =>
            go_wp2_with fail
            go_ret
            exact ⟨rfl, HB3.out⟩
      · rw [if_neg k0, if_neg k1, if_neg k2]
        have t0 : ((kd : Int) == 0) = false := by rw [beq_eq_false_iff_ne]; omega
        have t1 : ((kd : Int) == 1) = false := by rw [beq_eq_false_iff_ne]; omega
        have t2 : ((kd : Int) == 2) = false := by rw [beq_eq_false_iff_ne]; omega
        clear k0 k1 k2
        go_enter Try.func38, Try.ntmps38
        go_wp2_with fail
        go_region
        all_goals
          go_wp2_with fail
          go_ret
          exact ⟨rfl, (by repeat any_goals (first | exact Below.refl _ _ | exact Nat.le_refl _ | refine Below.alloc ?_ ?_ _ | refine Below.draw1 ?_ | refine Below.setCell ?_ ?_ _ | (simp; done) | (simp; omega)))⟩
end Go.Proofs.Ytlcmodbjbdfloaa
/- Walks: hash.LeafText, hash.ParentText. -/
namespace Go.Proofs.Ytlcmodbjbdfloaa
open Go.RowKit WireM
set_option linter.unusedVariables false
def ltF (i : Int) (d : NodeD) : List Nat × Nat := if i < 0 ∨ 65535 < i then ([], 1) else if rightB d = false ∨ d.kind = 2 then ([], 3) else ([1] ++ beN 4 i.toNat ++ nodeB d, 0)
def ptF (d : NodeD) (l r : List Nat) : List Nat × Nat := if rightB d = false ∨ d.kind = 1 then ([], 3) else if l.length ≠ 32 ∨ r.length ≠ 32 then ([], 1) else ([2] ++ nodeB d ++ vecB l ++ vecB r, 0)
def TextP (r : List Nat × Nat) (w : World) (e : Ending) (w' : World) : Prop :=
  Below w.heap.size w w' ∧ ∃ v, e = .returned (.tuple #[v, .int .u8 (r.2 : Nat)]) ∧ Own w' w.heap.size 5 v (bvs r.1)
theorem textP_off (n : Nat) (w w' : World) (hb : Below w.heap.size w w') : TextP ([], n) w (.returned (.tuple #[.slice none 0 0, .int .u8 (n : Nat)])) w' := ⟨hb, _, rfl, Own.nil _ _ _⟩
theorem parB_len {d : ParD} (h1 : d.box.length ≤ 200) (h2 : d.hash.length ≤ 200) (h3 : d.late.length ≤ 60) : (parB d).length ≤ 700 := by
  have a := vecB_len d.box (by omega)
  have b := vecB_len d.hash (by omega)
  have l := lateL_len d.late
  have c := vecB_len (lateL d.late) (by omega)
  unfold parB
  rw [List.length_append, List.length_append]; omega
theorem nodeB_len {d : NodeD} (hs : smallB d = true) : (nodeB d).length ≤ 1100 := by
  have hsm := of_decide_eq_true hs
  have hsl : SmallL d.leaf := ⟨hsm.1, hsm.2.1, hsm.2.2.1, hsm.2.2.2.1, hsm.2.2.2.2.1⟩
  have h1 := unsB_len hsl
  have h2 := vecB_len d.leaf.sig (by have := hsl.2.2.2.2; omega)
  have h3 := parB_len hsm.2.2.2.2.2.1 hsm.2.2.2.2.2.2.1 hsm.2.2.2.2.2.2.2
  have h4 := hsl.2.2.2.2
  unfold nodeB
  split
  · rw [List.length_cons, List.length_append]; omega
  · split
    · rw [List.length_cons]; omega
    · simp
theorem nbytes_any (d : NodeD) (c : Array Value) (w : World) (h : NodeC w d c) (hk : NodeOk d) (hs : smallB d = true) :
    Calls Try.prog 70 #[.agg c] w (NBytesP d w) := by
  cases hr : rightB d with
  | true => exact nbytes_on d c w h hk hs hr
  | false => exact nbytes_off d c w h hs hr
end Go.Proofs.Ytlcmodbjbdfloaa
/- Walks: the reference's join, Ahead, LeafBytes, Bytes of nodes. -/
namespace Go.Proofs.Ytlcmodbjbdfloaa
open Go.RowKit WireM
set_option linter.unusedVariables false
theorem unsB_eq (d : LeafD) : unsB d = (vecB d.box ++ vecB d.sign) ++ (vecB d.ident ++ [d.source]) ++ (if d.source = 3 then vecB d.par else []) := by
  unfold unsB catB
  simp [List.append_assoc]
end Go.Proofs.Ytlcmodbjbdfloaa
/- Walks: the reference's LeafBytes, Bytes of nodes. -/
namespace Go.Proofs.Ytlcmodbjbdfloaa
open Go.RowKit WireM
set_option linter.unusedVariables false
def leafB (d : LeafD) : List Nat := unsB d ++ vecB d.sig
end Go.Proofs.Ytlcmodbjbdfloaa
