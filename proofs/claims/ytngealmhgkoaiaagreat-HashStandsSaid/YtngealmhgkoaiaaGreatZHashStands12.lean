/- Walks: the reference's Right of nodes. -/
import Derived.Test.YtngealmhgkoaiaaGreatZHashStands11
import Derived.Test.YtngealmhgkoaiaaGreatZHashStands08
import Derived.Test.YtngealmhgkoaiaaGreatZHashStands04
namespace Go.Proofs.YtngealmhgkoaiaaGreat
open Go.RowKit WireM
set_option linter.unusedVariables false
def noLeafD : LeafD := ⟨[], [], [], 0, [], []⟩
def noParD : ParD := ⟨[], [], []⟩
def noNodeD : NodeD := ⟨0, noLeafD, noParD⟩
theorem rd_nil (w : World) : Rd w (.slice none 0 0) (bvs []) := ⟨none, 0, rfl, Nat.le_refl _, Nat.zero_le _, .inl ⟨rfl, fun _ => rfl⟩⟩
theorem rd_nili (w : World) : Rd w (.slice none 0 0) (ivs .i64 []) := ⟨none, 0, rfl, Nat.le_refl _, Nat.zero_le _, .inl ⟨rfl, fun _ => rfl⟩⟩
theorem noNode_c (w : World) : NodeC w noNodeD #[.int .u8 0, .slice none 0 0, .slice none 0 0, .slice none 0 0, .int .u8 0, .slice none 0 0, .slice none 0 0, .slice none 0 0, .slice none 0 0, .slice none 0 0] :=
 ⟨none, 0, none, 0, none, 0, none, 0, none, 0, none, 0, none, 0, none, 0, rfl, rd_nil w, rd_nil w, rd_nil w, rd_nil w, rd_nil w, rd_nil w, rd_nil w, rd_nili w⟩
theorem noNode_ok : NodeOk noNodeD := by constructor <;> simp [noNodeD, noLeafD, noParD]
theorem sameL_no (d : LeafD) : sameNB ⟨0, d, noParD⟩ noNodeD = nlB d.box.length d.sign.length d.ident.length d.source d.par.length d.sig.length := by
 rw [sameNB, nlB]
 apply decide_eq_decide.2
 have e : sameLB d noLeafD = true ↔ (d.box = [] ∧ d.sign = [] ∧ d.ident = [] ∧ d.source = 0 ∧ d.par = [] ∧ d.sig = []) := by
  unfold sameLB; rw [decide_eq_true_iff]; exact Iff.rfl
 constructor
 ·rintro ⟨_, h, _⟩
  obtain ⟨h1, h2, h3, h4, h5, h6⟩ := e.1 h
  rw [h1, h2, h3, h4, h5, h6]
  exact ⟨rfl, rfl⟩
 ·rintro ⟨h1, h2⟩
  exact ⟨rfl, e.2 ⟨List.eq_nil_of_length_eq_zero (by omega), List.eq_nil_of_length_eq_zero (by omega), List.eq_nil_of_length_eq_zero (by omega), h1, List.eq_nil_of_length_eq_zero (by omega), List.eq_nil_of_length_eq_zero (by omega)⟩, rfl, rfl, rfl⟩
theorem sameP_no (p : ParD) : sameNB ⟨0, noLeafD, p⟩ noNodeD = npB p.box.length p.hash.length p.late.length := by
 rw [sameNB, npB]
 apply decide_eq_decide.2
 have hl : sameLB noLeafD noLeafD = true := by decide
 constructor
 ·rintro ⟨_, _, h1, h2, h3⟩
  have h1' : p.box = [] := h1
  have h2' : p.hash = [] := h2
  have h3' : p.late = [] := h3
  rw [h1', h2', h3']
  rfl
 ·intro h
  have h' : p.box.length + p.hash.length + p.late.length = 0 := h
  have q1 : p.box = [] := List.eq_nil_of_length_eq_zero (by omega)
  have q2 : p.hash = [] := List.eq_nil_of_length_eq_zero (by omega)
  have q3 : p.late = [] := List.eq_nil_of_length_eq_zero (by omega)
  exact ⟨rfl, hl, q1, q2, q3⟩
theorem bcell {W w1 : World} (hb : Below W.heap.size W w1) : ∀ b o, b < W.heap.size → w1.cell? ⟨b, o, none⟩ = W.cell? ⟨b, o, none⟩ := fun b o h => hb.cell (p := ⟨b, o, none⟩) h
set_option maxRecDepth 100000 in
set_option maxHeartbeats 8000000 in
theorem rright_any (d : NodeD) (c : Array Value) (w : World) (h : NodeC w d c) (hk : NodeOk d) :
  Calls Tryz.prog 72 #[.agg c] w fun e w' => e = .returned (.bool (rightB d)) ∧ Below w.heap.size w w' := by
 obtain ⟨a1, c1, a2, c2, a3, c3, a4, c4, a5, c5, b1, e1, b2, e2, b3, e3, rfl, h1, h2, h3, h4, h5, h6, h7, h8⟩ := h
 have SLF := fun W (hw : Below w.heap.size w W) => rsameNode_any ⟨0, d.leaf, noParD⟩ noNodeD _ _ W ⟨a1, c1, a2, c2, a3, c3, a4, c4, a5, c5, none, 0, none, 0, none, 0, rfl, h1.below hw (Nat.le_refl _), h2.below hw (Nat.le_refl _), h3.below hw (Nat.le_refl _), h4.below hw (Nat.le_refl _), h5.below hw (Nat.le_refl _), rd_nil W, rd_nil W, rd_nili W⟩
  (noNode_c W) ⟨by simp, hk.source, hk.box, hk.sign, hk.ident, hk.par, hk.sig, by simp [noParD], by simp [noParD], by simp [noParD]⟩ noNode_ok
 have SPR := fun W (hw : Below w.heap.size w W) => rsameNode_any ⟨0, noLeafD, d.par⟩ noNodeD _ _ W ⟨none, 0, none, 0, none, 0, none, 0, none, 0, b1, e1, b2, e2, b3, e3, rfl, rd_nil W, rd_nil W, rd_nil W, rd_nil W, rd_nil W, h6.below hw (Nat.le_refl _), h7.below hw (Nat.le_refl _), h8.below hw (Nat.le_refl _)⟩
  (noNode_c W) ⟨by simp, by simp [noLeafD], by simp [noLeafD], by simp [noLeafD], by simp [noLeafD], by simp [noLeafD], by simp [noLeafD], hk.pbox, hk.hash, hk.late⟩ noNode_ok
 simp only [sameL_no] at SLF
 simp only [sameP_no] at SPR
 have RL := fun W => rrightLeaf_any a1 a2 a3 a4 a5 d.leaf.box.length d.leaf.sign.length d.leaf.ident.length d.leaf.par.length d.leaf.sig.length c1 c2 c3 c4 c5 d.leaf.source W
 have RP := fun W (hw : Below w.heap.size w W) => rrightParent_any b1 b2 b3 d.par.box.length d.par.hash.length e1 e2 e3 d.par.late W (h8.below hw (Nat.le_refl _))
 have hB : rightB d = (if d.kind = 0 then nlB d.leaf.box.length d.leaf.sign.length d.leaf.ident.length d.leaf.source d.leaf.par.length d.leaf.sig.length && npB d.par.box.length d.par.hash.length d.par.late.length
  else if d.kind = 1 then rlB d.leaf.box.length d.leaf.sign.length d.leaf.ident.length d.leaf.source d.leaf.par.length d.leaf.sig.length && npB d.par.box.length d.par.hash.length d.par.late.length
  else if d.kind = 2 then nlB d.leaf.box.length d.leaf.sign.length d.leaf.ident.length d.leaf.source d.leaf.par.length d.leaf.sig.length && rpB d.par.box.length d.par.hash.length d.par.late else false) := rfl
 rw [hB]
 simp only [show noLeafD.box = [] from rfl, show noLeafD.sign = [] from rfl, show noLeafD.ident = [] from rfl, show noLeafD.source = 0 from rfl, show noLeafD.par = [] from rfl, show noLeafD.sig = [] from rfl, show noParD.box = [] from rfl, show noParD.hash = [] from rfl, show noParD.late = [] from rfl, List.length_nil] at SLF SPR
 obtain ⟨m1, hm1⟩ : ∃ b, b = d.leaf.box.length := ⟨_, rfl⟩
 obtain ⟨m2, hm2⟩ : ∃ b, b = d.leaf.sign.length := ⟨_, rfl⟩
 obtain ⟨m3, hm3⟩ : ∃ b, b = d.leaf.ident.length := ⟨_, rfl⟩
 obtain ⟨m4, hm4⟩ : ∃ b, b = d.leaf.par.length := ⟨_, rfl⟩
 obtain ⟨m5, hm5⟩ : ∃ b, b = d.leaf.sig.length := ⟨_, rfl⟩
 obtain ⟨m6, hm6⟩ : ∃ b, b = d.par.box.length := ⟨_, rfl⟩
 obtain ⟨m7, hm7⟩ : ∃ b, b = d.par.hash.length := ⟨_, rfl⟩
 obtain ⟨m8, hm8⟩ : ∃ b, b = d.par.late.length := ⟨_, rfl⟩
 obtain ⟨src, hsrc⟩ : ∃ b, b = d.leaf.source := ⟨_, rfl⟩
 obtain ⟨kd, hkd⟩ : ∃ b, b = d.kind := ⟨_, rfl⟩
 rw [← hm1, ← hm2, ← hm3, ← hm4, ← hm5, ← hsrc] at RL
 rw [← hm6, ← hm7, ← hm8] at RP
 rw [← hm1, ← hm2, ← hm3, ← hm4, ← hm5, ← hsrc] at SLF
 rw [← hm6, ← hm7, ← hm8] at SPR
 rw [← hm1, ← hm2, ← hm3, ← hm4, ← hm5, ← hm6, ← hm7, ← hm8, ← hsrc, ← hkd]
 obtain ⟨rl, hrl⟩ : ∃ b, b = rlB m1 m2 m3 src m4 m5 := ⟨_, rfl⟩
 obtain ⟨nl, hnl⟩ : ∃ b, b = nlB m1 m2 m3 src m4 m5 := ⟨_, rfl⟩
 obtain ⟨np, hnp⟩ : ∃ b, b = npB m6 m7 m8 := ⟨_, rfl⟩
 obtain ⟨rp, hrp⟩ : ∃ b, b = rpB m6 m7 d.par.late := ⟨_, rfl⟩
 rw [← hrl] at RL ⊢
 rw [← hnl] at SLF ⊢
 rw [← hnp] at SPR ⊢
 rw [← hrp] at RP ⊢
 have HSLF := Lib.hid SLF
 have HSPR := Lib.hid SPR
 have HRL := Lib.hid RL
 have HRP := Lib.hid RP
 clear SLF SPR RL RP hB h1 h2 h3 h4 h5 h6 h7 h8 hm1 hm2 hm3 hm4 hm5 hm6 hm7 hm8 hsrc hkd hrl hnl hnp hrp hk
 by_cases k0 : kd = 0
 ·subst k0
  rw [if_pos rfl]
  go_enter Tryz.func72, Tryz.ntmps72
  go_wp2_with fail
  go_region
  all_goals
   go_wp2_with fail
   refine (HSLF.out _ (by repeat any_goals (first | exact Below.refl _ _ | exact Nat.le_refl _ | refine Below.alloc ?_ ?_ _ | refine Below.draw1 ?_ | refine Below.setCell ?_ ?_ _ | (simp; done) | (simp; omega)))).mono ?_
   rintro e w3 ⟨rfl, hb3⟩
   have hc3 := bcell hb3
   have hz3 := hb3.size
   have HB3 : Hid (Below w.heap.size w w3) := Lib.hid (Below.trans (by repeat any_goals (first | exact Below.refl _ _ | exact Nat.le_refl _ | refine Below.alloc ?_ ?_ _ | refine Below.draw1 ?_ | refine Below.setCell ?_ ?_ _ | (simp; done) | (simp; omega))) (hb3.mono (by simp; omega)))
   clear hb3
   simp only [World.alloc, World.drew, Array.size_push] at hz3
   cases nl with
   | true =>
    have hg0 : w.heap.size < w3.heap.size := by omega
    have hg1 : w.heap.size + 1 < w3.heap.size := by omega
    have hg2 : w.heap.size + 1 + 1 < w3.heap.size := by omega
    go_wp2_with fail
    refine (HSPR.out _ HB3.out).mono ?_
    rintro e w4 ⟨rfl, hb4⟩
    have HB4 := Lib.hid (HB3.out.trans (hb4.mono (by omega)))
    clear hb4
    go_wp2_with fail
    go_ret
    exact ⟨rfl, HB4.out⟩
   | false =>
    go_wp2_with fail
    go_ret
    exact ⟨rfl, HB3.out⟩
 ·by_cases k1 : kd = 1
  ·subst k1
   rw [if_neg (by omega), if_pos rfl]
   go_enter Tryz.func72, Tryz.ntmps72
   go_wp2_with fail
   go_region
   all_goals
    go_wp2_with fail
    refine (HRL.out _).mono ?_
    rintro e w3 ⟨rfl, hb3⟩
    have hc3 := bcell hb3
    have hz3 := hb3.size
    have HB3 : Hid (Below w.heap.size w w3) := Lib.hid (Below.trans (by repeat any_goals (first | exact Below.refl _ _ | exact Nat.le_refl _ | refine Below.alloc ?_ ?_ _ | refine Below.draw1 ?_ | refine Below.setCell ?_ ?_ _ | (simp; done) | (simp; omega))) (hb3.mono (by simp; omega)))
    clear hb3
    simp only [World.alloc, World.drew, Array.size_push] at hz3
    cases rl with
    | true =>
     have hg0 : w.heap.size < w3.heap.size := by omega
     have hg1 : w.heap.size + 1 < w3.heap.size := by omega
     have hg2 : w.heap.size + 1 + 1 < w3.heap.size := by omega
     go_wp2_with fail
     refine (HSPR.out _ HB3.out).mono ?_
     rintro e w4 ⟨rfl, hb4⟩
     have HB4 := Lib.hid (HB3.out.trans (hb4.mono (by omega)))
     clear hb4
     go_wp2_with fail
     go_ret
     exact ⟨rfl, HB4.out⟩
    | false =>
     go_wp2_with fail
     go_ret
     exact ⟨rfl, HB3.out⟩
  ·by_cases k2 : kd = 2
   ·subst k2
    rw [if_neg (by omega), if_neg (by omega), if_pos rfl, Bool.and_comm]
    go_enter Tryz.func72, Tryz.ntmps72
    go_wp2_with fail
    go_region
    all_goals
     go_wp2_with fail
     refine (HRP.out _ (by repeat any_goals (first | exact Below.refl _ _ | exact Nat.le_refl _ | refine Below.alloc ?_ ?_ _ | refine Below.draw1 ?_ | refine Below.setCell ?_ ?_ _ | (simp; done) | (simp; omega)))).mono ?_
     rintro e w3 ⟨rfl, hb3⟩
     have hc3 := bcell hb3
     have hz3 := hb3.size
     have HB3 : Hid (Below w.heap.size w w3) := Lib.hid (Below.trans (by repeat any_goals (first | exact Below.refl _ _ | exact Nat.le_refl _ | refine Below.alloc ?_ ?_ _ | refine Below.draw1 ?_ | refine Below.setCell ?_ ?_ _ | (simp; done) | (simp; omega))) (hb3.mono (by simp; omega)))
     clear hb3
     simp only [World.alloc, World.drew, Array.size_push] at hz3
     cases rp with
     | true =>
      have hg0 : w.heap.size < w3.heap.size := by omega
      have hg1 : w.heap.size + 1 < w3.heap.size := by omega
      have hg2 : w.heap.size + 1 + 1 < w3.heap.size := by omega
      go_wp2_with fail
      refine (HSLF.out _ HB3.out).mono ?_
      rintro e w4 ⟨rfl, hb4⟩
      have HB4 := Lib.hid (HB3.out.trans (hb4.mono (by omega)))
      clear hb4
      go_wp2_with fail
      go_ret
      exact ⟨rfl, HB4.out⟩
     | false =>
      go_wp2_with fail
      go_ret
      exact ⟨rfl, HB3.out⟩
   ·rw [if_neg k0, if_neg k1, if_neg k2]
    have t0 : ((kd : Int) == 0) = false := by rw [beq_eq_false_iff_ne]; omega
    have t1 : ((kd : Int) == 1) = false := by rw [beq_eq_false_iff_ne]; omega
    have t2 : ((kd : Int) == 2) = false := by rw [beq_eq_false_iff_ne]; omega
    clear k0 k1 k2
    go_enter Tryz.func72, Tryz.ntmps72
    go_wp2_with fail
    go_region
    all_goals
     go_wp2_with fail
     go_ret
     exact ⟨rfl, (by repeat any_goals (first | exact Below.refl _ _ | exact Nat.le_refl _ | refine Below.alloc ?_ ?_ _ | refine Below.draw1 ?_ | refine Below.setCell ?_ ?_ _ | (simp; done) | (simp; omega)))⟩
end Go.Proofs.YtngealmhgkoaiaaGreat
/- Walks: hash.LeafText, hash.ParentText. -/
namespace Go.Proofs.YtngealmhgkoaiaaGreat
open Go.RowKit WireM
set_option linter.unusedVariables false
def ltF (i : Int) (d : NodeD) : List Nat × Nat := if i < 0 ∨ 65535 < i then ([], 1) else if rightB d = false ∨ d.kind = 2 then ([], 3) else ([1] ++ beN 4 i.toNat ++ nodeB d, 0)
def ptF (d : NodeD) (l r : List Nat) : List Nat × Nat := if rightB d = false ∨ d.kind = 1 then ([], 3) else if l.length ≠ 32 ∨ r.length ≠ 32 then ([], 1) else ([2] ++ nodeB d ++ vecB l ++ vecB r, 0)
def TextP (r : List Nat × Nat) (w : World) (e : Ending) (w' : World) : Prop :=
 Below w.heap.size w w' ∧ ∃ v, e = .returned (.tuple #[v, .int .u8 (r.2 : Nat)]) ∧ Own w' w.heap.size 5 v (bvs r.1)
theorem textP_off (n : Nat) (w w' : World) (hb : Below w.heap.size w w') : TextP ([], n) w (.returned (.tuple #[.slice none 0 0, .int .u8 (n : Nat)])) w' := ⟨hb, _, rfl, Own.nil _ _ _⟩
theorem parB_len {d : ParD} (h1 : d.box.length ≤ 200) (h2 : d.hash.length ≤ 200) (h3 : d.late.length ≤ 60) : (parB d).length ≤ 700 := by
 have a := vecB_len d.box (by omega)
 have b := vecB_len d.hash (by omega)
 have l := lateL_len d.late
 have c := vecB_len (lateL d.late) (by omega)
 unfold parB
 rw [List.length_append, List.length_append]; omega
theorem nodeB_len {d : NodeD} (hs : smallB d = true) : (nodeB d).length ≤ 1100 := by
 have hsm := of_decide_eq_true hs
 have hsl : SmallL d.leaf := ⟨hsm.1, hsm.2.1, hsm.2.2.1, hsm.2.2.2.1, hsm.2.2.2.2.1⟩
 have h1 := unsB_len hsl
 have h2 := vecB_len d.leaf.sig (by have := hsl.2.2.2.2; omega)
 have h3 := parB_len hsm.2.2.2.2.2.1 hsm.2.2.2.2.2.2.1 hsm.2.2.2.2.2.2.2
 have h4 := hsl.2.2.2.2
 unfold nodeB
 split
 ·rw [List.length_cons, List.length_append]; omega
 ·split
  ·rw [List.length_cons]; omega
  ·simp
theorem nbytes_any (d : NodeD) (c : Array Value) (w : World) (h : NodeC w d c) (hk : NodeOk d) (hs : smallB d = true) :
  Calls Tryz.prog 69 #[.agg c] w (NBytesP d w) := by
 cases hr : rightB d with
 | true => exact nbytes_on d c w h hk hs hr
 | false => exact nbytes_off d c w h hs hr
set_option maxRecDepth 100000 in
set_option maxHeartbeats 4000000 in
theorem leafText_any (i : Int) (d : NodeD) (c : Array Value) (w : World) (h : NodeC w d c) (hk : NodeOk d) (hs : smallB d = true) :
  Calls Tryz.prog 81 #[.int .i64 i, .agg c] w (TextP (ltF i d) w) := by
 have HNB := Lib.hid (nbytes_any d c _ (h.below ((Below.refl w.heap.size w).alloc (Nat.le_refl _) (.cells c 54)) (Nat.le_refl _)) hk hs)
 have hlen := nodeB_len hs
 have hF : ltF i d = if i < 0 ∨ 65535 < i then ([], 1) else if rightB d = false ∨ d.kind = 2 then ([], 3) else ([1] ++ beN 4 i.toNat ++ nodeB d, 0) := rfl
 obtain ⟨a1, c1, a2, c2, a3, c3, a4, c4, a5, c5, b1, e1, b2, e2, b3, e3, rfl, -⟩ := h
 obtain ⟨m1, hm1⟩ : ∃ b, b = d.leaf.box.length := ⟨_, rfl⟩
 obtain ⟨m2, hm2⟩ : ∃ b, b = d.leaf.sign.length := ⟨_, rfl⟩
 obtain ⟨m3, hm3⟩ : ∃ b, b = d.leaf.ident.length := ⟨_, rfl⟩
 obtain ⟨m4, hm4⟩ : ∃ b, b = d.leaf.par.length := ⟨_, rfl⟩
 obtain ⟨m5, hm5⟩ : ∃ b, b = d.leaf.sig.length := ⟨_, rfl⟩
 obtain ⟨m6, hm6⟩ : ∃ b, b = d.par.box.length := ⟨_, rfl⟩
 obtain ⟨m7, hm7⟩ : ∃ b, b = d.par.hash.length := ⟨_, rfl⟩
 obtain ⟨m8, hm8⟩ : ∃ b, b = d.par.late.length := ⟨_, rfl⟩
 obtain ⟨kd, hkd⟩ : ∃ b, b = d.kind := ⟨_, rfl⟩
 obtain ⟨src, hsrc⟩ : ∃ b, b = d.leaf.source := ⟨_, rfl⟩
 obtain ⟨NB, hNB⟩ : ∃ b, b = nodeB d := ⟨_, rfl⟩
 obtain ⟨rb, hrb⟩ : ∃ b, b = rightB d := ⟨_, rfl⟩
 rw [← hm1, ← hm2, ← hm3, ← hm4, ← hm5, ← hm6, ← hm7, ← hm8, ← hkd, ← hsrc] at HNB ⊢
 unfold NBytesP at HNB
 rw [← hNB, ← hrb] at HNB
 rw [← hNB] at hlen
 simp only [← hNB, ← hrb, ← hkd] at hF
 rw [hF]
 have hb0 := (Below.refl w.heap.size w).alloc (Nat.le_refl _) (.cells #[.int .u8 (kd : Nat), .slice a1 m1 c1, .slice a2 m2 c2, .slice a3 m3 c3, .int .u8 (src : Nat), .slice a4 m4 c4, .slice a5 m5 c5, .slice b1 m6 e1, .slice b2 m7 e2, .slice b3 m8 e3] 54)
 have HB0 := Lib.hid hb0
 clear hF hk hs hm1 hm2 hm3 hm4 hm5 hm6 hm7 hm8 hkd hsrc hNB hrb hb0
 by_cases k0 : i < 0
 ·rw [if_pos (.inl k0)]
  have HE := Lib.hid (textP_off 1 w _ HB0.out)
  go_enter Tryz.func81, Tryz.ntmps81
  go_wp2_with fail
  go_ret2
  exact HE.out
 ·by_cases k1 : 65535 < i
  ·rw [if_pos (.inr k1)]
   have HE := Lib.hid (textP_off 1 w _ HB0.out)
   have k2 : 65536 ≤ i := by omega
   have k3 : 0 ≤ i := by omega
   clear k0 k1
   go_enter Tryz.func81, Tryz.ntmps81
   go_wp2_with fail
   go_ret2
   exact HE.out
  ·rw [if_neg (by omega)]
   have k2 : i < 65536 := by omega
   have k3 : 0 ≤ i := by omega
   clear k0 k1
   cases rb with
   | false =>
    rw [if_pos (.inl rfl)]
    simp only [Bool.false_eq_true, if_false] at HNB
    go_enter Tryz.func81, Tryz.ntmps81
    go_wp2_with fail
    refine HNB.out.mono ?_
    rintro e w1 ⟨hb1, v1, rfl, hown⟩
    have hbk := (Blk.new w 54 _).below hb1 (by simp)
    have x0 := hbk.cell 0
    simp only [List.getElem?_toArray, List.getElem?_cons_zero] at x0
    have hz := hb1.size
    simp only [World.alloc] at hz
    have hgx : w.heap.size < w1.heap.size := by simp at hz; omega
    have HB1 := Lib.hid (((Below.refl w.heap.size w).alloc (Nat.le_refl _) (.cells #[.int .u8 (kd : Nat), .slice a1 m1 c1, .slice a2 m2 c2, .slice a3 m3 c3, .int .u8 (src : Nat), .slice a4 m4 c4, .slice a5 m5 c5, .slice b1 m6 e1, .slice b2 m7 e2, .slice b3 m8 e3] 54)).trans (hb1.mono (by simp)))
    clear hbk hb1 hz
    have HE := Lib.hid (textP_off 3 w _ HB1.out)
    clear hown
    go_wp2_with fail
    go_ret2
    exact HE.out
   | true =>
    simp only [if_true] at HNB
    by_cases k4 : kd = 2
    ·have t4 : ((kd : Int) == 2) = true := by rw [beq_iff_eq]; omega
     rw [if_pos (.inr k4)]
     clear k4
     go_enter Tryz.func81, Tryz.ntmps81
     go_wp2_with fail
     refine HNB.out.mono ?_
     rintro e w1 ⟨hb1, v1, rfl, hown⟩
     have hbk := (Blk.new w 54 _).below hb1 (by simp)
     have x0 := hbk.cell 0
     simp only [List.getElem?_toArray, List.getElem?_cons_zero] at x0
     have hz := hb1.size
     simp only [World.alloc] at hz
     have hgx : w.heap.size < w1.heap.size := by simp at hz; omega
     have HB1 := Lib.hid (((Below.refl w.heap.size w).alloc (Nat.le_refl _) (.cells #[.int .u8 (kd : Nat), .slice a1 m1 c1, .slice a2 m2 c2, .slice a3 m3 c3, .int .u8 (src : Nat), .slice a4 m4 c4, .slice a5 m5 c5, .slice b1 m6 e1, .slice b2 m7 e2, .slice b3 m8 e3] 54)).trans (hb1.mono (by simp)))
     clear hbk hb1 hz
     have HE := Lib.hid (textP_off 3 w _ HB1.out)
     clear hown
     go_wp2_with fail
     go_ret2
     exact HE.out
    ·rw [if_neg (by simp [k4])]
     have t4 : ((kd : Int) == 2) = false := by rw [beq_eq_false_iff_ne]; omega
     have PN : ∀ (N : Nat) (W : World), Rd W (.slice (some ⟨N, 0, none⟩) 1 1) (bvs [1]) → Calls Tryz.prog 148 #[.slice (some ⟨N, 0, none⟩) 1 1, .int .i64 4, .int .u64 i] W fun e w' => ∃ v', e = .returned v' ∧ Own w' W.heap.size 5 v' (bvs ([1] ++ beN 4 i.toNat)) ∧ Below W.heap.size W w' := by
      intro N W hr
      have := putNum_on (.slice (some ⟨N, 0, none⟩) 1 1) [1] 4 i.toNat W hr (by simp) rfl (by omega)
      rw [Int.toNat_of_nonneg k3] at this
      exact this
     have HPN0 := Lib.hid PN
     obtain ⟨BN, hBN⟩ : ∃ b, b = beN 4 i.toNat := ⟨_, rfl⟩
     have hbl : BN.length = 4 := by rw [hBN, beN_len]
     rw [← hBN] at HPN0 ⊢
     have HBL := Lib.hid hbl
     clear k4 PN hBN hbl
     go_enter Tryz.func81, Tryz.ntmps81
     go_wp2_with fail
     refine HNB.out.mono ?_
     rintro e w1 ⟨hb1, v1, rfl, hown⟩
     have hbk := (Blk.new w 54 _).below hb1 (by simp)
     have x0 := hbk.cell 0
     simp only [List.getElem?_toArray, List.getElem?_cons_zero] at x0
     have hz := hb1.size
     simp only [World.alloc] at hz
     have hgx : w.heap.size < w1.heap.size := by simp at hz; omega
     have HB1 := Lib.hid (((Below.refl w.heap.size w).alloc (Nat.le_refl _) (.cells #[.int .u8 (kd : Nat), .slice a1 m1 c1, .slice a2 m2 c2, .slice a3 m3 c3, .int .u8 (src : Nat), .slice a4 m4 c4, .slice a5 m5 c5, .slice b1 m6 e1, .slice b2 m7 e2, .slice b3 m8 e3] 54)).trans (hb1.mono (by simp)))
     clear hbk hb1 hz
     have HO := Lib.hid hown
     have HPN := Lib.hid (HPN0.out w1.heap.size _ (lit_rd (w := w1) (cs := #[.int .u8 1]) (L := [1]) rfl rfl (by simp)))
     clear hown
     go_wp2_with fail
     refine HPN.out.mono ?_
     rintro e w2 ⟨v2, rfl, hown2, hb2⟩
     have hbt := (HB1.out.alloc HB1.out.size (.cells #[.int .u8 1] 5)).trans (hb2.mono (by simp; omega))
     have HB2 := Lib.hid hbt
     have HO1 := Lib.hid (((HO.out.alloc (.cells #[.int .u8 1] 5)).below hb2 (Nat.le_refl _)).rd)
     have HO2 := Lib.hid (hown2.mono (show w.heap.size ≤ _ by simp; omega))
     have hz2 := hbt.size
     clear hown2 hb2 hbt
     go_wp2_with (at_builtin; refine wpList_app rfl (.tmp 29) (.tmp 30) 25 rfl w.heap.size 5 _ 1 bytesE _ _ rfl HO2.out _ (bvs NB) rfl HO1.out (bvs_one _) ?c1 ?c2 ?_)
     case c1 => rw [bvs_len, bvs_len, List.length_append, HBL.out]; simp only [List.length_cons, List.length_nil]; omega
     case c2 => exact hz2
     rintro v3 w3 hown3 - hb3
     have HO3 := Lib.hid hown3
     have HB3 := Lib.hid (HB2.out.trans hb3)
     clear hown3 hb3
     go_wp2_with fail
     go_ret2
     refine ⟨HB3.out, _, rfl, ?_⟩
     have := HO3.out
     rw [← bvs_append] at this
     exact this
set_option maxRecDepth 100000 in
set_option maxHeartbeats 4000000 in
theorem parentText_any (d : NodeD) (c : Array Value) (vl vr : Value) (l r : List Nat) (w : World) (h : NodeC w d c) (hk : NodeOk d) (hs : smallB d = true) (hl : Rd w vl (bvs l)) (hr : Rd w vr (bvs r)) :
  Calls Tryz.prog 174 #[.agg c, vl, vr] w (TextP (ptF d l r) w) := by
 have HNB := Lib.hid (nbytes_any d c _ (h.below ((Below.refl w.heap.size w).alloc (Nat.le_refl _) (.cells c 54)) (Nat.le_refl _)) hk hs)
 have hlen := nodeB_len hs
 have hF : ptF d l r = if rightB d = false ∨ d.kind = 1 then ([], 3) else if l.length ≠ 32 ∨ r.length ≠ 32 then ([], 1) else ([2] ++ nodeB d ++ vecB l ++ vecB r, 0) := rfl
 obtain ⟨a1, c1, a2, c2, a3, c3, a4, c4, a5, c5, b1, e1, b2, e2, b3, e3, rfl, -⟩ := h
 obtain ⟨m1, hm1⟩ : ∃ b, b = d.leaf.box.length := ⟨_, rfl⟩
 obtain ⟨m2, hm2⟩ : ∃ b, b = d.leaf.sign.length := ⟨_, rfl⟩
 obtain ⟨m3, hm3⟩ : ∃ b, b = d.leaf.ident.length := ⟨_, rfl⟩
 obtain ⟨m4, hm4⟩ : ∃ b, b = d.leaf.par.length := ⟨_, rfl⟩
 obtain ⟨m5, hm5⟩ : ∃ b, b = d.leaf.sig.length := ⟨_, rfl⟩
 obtain ⟨m6, hm6⟩ : ∃ b, b = d.par.box.length := ⟨_, rfl⟩
 obtain ⟨m7, hm7⟩ : ∃ b, b = d.par.hash.length := ⟨_, rfl⟩
 obtain ⟨m8, hm8⟩ : ∃ b, b = d.par.late.length := ⟨_, rfl⟩
 obtain ⟨kd, hkd⟩ : ∃ b, b = d.kind := ⟨_, rfl⟩
 obtain ⟨src, hsrc⟩ : ∃ b, b = d.leaf.source := ⟨_, rfl⟩
 obtain ⟨NB, hNB⟩ : ∃ b, b = nodeB d := ⟨_, rfl⟩
 obtain ⟨rb, hrb⟩ : ∃ b, b = rightB d := ⟨_, rfl⟩
 rw [← hm1, ← hm2, ← hm3, ← hm4, ← hm5, ← hm6, ← hm7, ← hm8, ← hkd, ← hsrc] at HNB ⊢
 unfold NBytesP at HNB
 rw [← hNB, ← hrb] at HNB
 rw [← hNB] at hlen
 simp only [← hNB, ← hrb, ← hkd] at hF
 rw [hF]
 have hb0 := (Below.refl w.heap.size w).alloc (Nat.le_refl _) (.cells #[.int .u8 (kd : Nat), .slice a1 m1 c1, .slice a2 m2 c2, .slice a3 m3 c3, .int .u8 (src : Nat), .slice a4 m4 c4, .slice a5 m5 c5, .slice b1 m6 e1, .slice b2 m7 e2, .slice b3 m8 e3] 54)
 have HB0 := Lib.hid hb0
 obtain ⟨al, cl, rfl, -⟩ := id hl
 obtain ⟨ar, cr, rfl, -⟩ := id hr
 rw [bvs_len] at hl hr ⊢
 rw [bvs_len]
 obtain ⟨nl, hnl⟩ : ∃ n, n = l.length := ⟨_, rfl⟩
 obtain ⟨nr, hnr⟩ : ∃ n, n = r.length := ⟨_, rfl⟩
 rw [← hnl] at hl ⊢
 rw [← hnr] at hr ⊢
 have HL := Lib.hid hl
 have HR := Lib.hid hr
 have HN := Lib.hid (show nl = l.length ∧ nr = r.length from ⟨hnl, hnr⟩)
 clear hF hk hs hm1 hm2 hm3 hm4 hm5 hm6 hm7 hm8 hkd hsrc hNB hrb hb0 hl hr hnl hnr
 cases rb with
 | false =>
  rw [if_pos (.inl rfl)]
  simp only [Bool.false_eq_true, if_false] at HNB
  go_enter Tryz.func174, Tryz.ntmps174
  go_wp2_with fail
  refine HNB.out.mono ?_
  rintro e w1 ⟨hb1, v1, rfl, hown⟩
  have hbk := (Blk.new w 54 _).below hb1 (by simp)
  have x0 := hbk.cell 0
  simp only [List.getElem?_toArray, List.getElem?_cons_zero] at x0
  have hz := hb1.size
  simp only [World.alloc] at hz
  have hgx : w.heap.size < w1.heap.size := by simp at hz; omega
  have HB1 := Lib.hid (((Below.refl w.heap.size w).alloc (Nat.le_refl _) (.cells #[.int .u8 (kd : Nat), .slice a1 m1 c1, .slice a2 m2 c2, .slice a3 m3 c3, .int .u8 (src : Nat), .slice a4 m4 c4, .slice a5 m5 c5, .slice b1 m6 e1, .slice b2 m7 e2, .slice b3 m8 e3] 54)).trans (hb1.mono (by simp)))
  clear hbk hb1 hz
  have HE := Lib.hid (textP_off 3 w _ HB1.out)
  clear hown
  go_wp2_with fail
  go_ret2
  exact HE.out
 | true =>
  simp only [if_true] at HNB
  by_cases k4 : kd = 1
  ·have t4 : ((kd : Int) == 1) = true := by rw [beq_iff_eq]; omega
   rw [if_pos (.inr k4)]
   clear k4
   go_enter Tryz.func174, Tryz.ntmps174
   go_wp2_with fail
   refine HNB.out.mono ?_
   rintro e w1 ⟨hb1, v1, rfl, hown⟩
   have hbk := (Blk.new w 54 _).below hb1 (by simp)
   have x0 := hbk.cell 0
   simp only [List.getElem?_toArray, List.getElem?_cons_zero] at x0
   have hz := hb1.size
   simp only [World.alloc] at hz
   have hgx : w.heap.size < w1.heap.size := by simp at hz; omega
   have HB1 := Lib.hid (((Below.refl w.heap.size w).alloc (Nat.le_refl _) (.cells #[.int .u8 (kd : Nat), .slice a1 m1 c1, .slice a2 m2 c2, .slice a3 m3 c3, .int .u8 (src : Nat), .slice a4 m4 c4, .slice a5 m5 c5, .slice b1 m6 e1, .slice b2 m7 e2, .slice b3 m8 e3] 54)).trans (hb1.mono (by simp)))
   clear hbk hb1 hz
   have HE := Lib.hid (textP_off 3 w _ HB1.out)
   clear hown
   go_wp2_with fail
   go_ret2
   exact HE.out
  ·rw [if_neg (by simp [k4])]
   have t4 : ((kd : Int) == 1) = false := by rw [beq_eq_false_iff_ne]; omega
   clear k4
   by_cases k5 : nl = 32
   ·have t5 : ((nl : Int) != 32) = false := by rw [bne_eq_false_iff_eq]; omega
    by_cases k6 : nr = 32
    ·have t6 : ((nr : Int) != 32) = false := by rw [bne_eq_false_iff_eq]; omega
     rw [if_neg (by omega)]
     have HN2 := Lib.hid (show l.length = 32 ∧ r.length = 32 from ⟨by rw [← HN.out.1]; exact k5, by rw [← HN.out.2]; exact k6⟩)
     clear k5 k6
     go_enter Tryz.func174, Tryz.ntmps174
     go_wp2_with fail
     refine HNB.out.mono ?_
     rintro e w1 ⟨hb1, v1, rfl, hown⟩
     have hbk := (Blk.new w 54 _).below hb1 (by simp)
     have x0 := hbk.cell 0
     simp only [List.getElem?_toArray, List.getElem?_cons_zero] at x0
     have hz := hb1.size
     simp only [World.alloc] at hz
     have hgx : w.heap.size < w1.heap.size := by simp at hz; omega
     have HB1 := Lib.hid (((Below.refl w.heap.size w).alloc (Nat.le_refl _) (.cells #[.int .u8 (kd : Nat), .slice a1 m1 c1, .slice a2 m2 c2, .slice a3 m3 c3, .int .u8 (src : Nat), .slice a4 m4 c4, .slice a5 m5 c5, .slice b1 m6 e1, .slice b2 m7 e2, .slice b3 m8 e3] 54)).trans (hb1.mono (by simp)))
     clear hbk hb1 hz
     have HO := Lib.hid hown
     have HL1 := Lib.hid (HL.out.below HB1.out (Nat.le_refl _))
     have HR1 := Lib.hid (HR.out.below HB1.out (Nat.le_refl _))
     have hz1 := HB1.out.size
     clear hown
     go_wp2_with (at_builtin; refine wpList_app rfl (.tmp 32) (.tmp 33) 25 rfl w.heap.size 5 _ 1 bytesE _ (bvs [2]) rfl (Own.full (w := w1) (B := w.heap.size) (e := 5) (cs := #[.int .u8 2]) rfl hz1 (by unfold maxLen; simp) (n := 1) rfl) _ (bvs NB) rfl (HO.out.rd.alloc _) (bvs_one _) ?c1 ?c2 ?_)
     case c1 => rw [bvs_len, bvs_len]; simp only [List.length_cons, List.length_nil]; omega
     case c2 => simp; omega
     rintro v3 w3 hown3 - hb3
     rw [← bvs_append] at hown3
     have hbt := (HB1.out.alloc hz1 (.cells #[.int .u8 2] 5)).trans hb3
     have HB3 := Lib.hid hbt
     have hz3 := hbt.size
     have HP1 := Lib.hid (putVec_any v3 _ _ l w3 hown3.rd (HL.out.below hbt (Nat.le_refl _)) (by rw [List.length_append]; simp only [List.length_cons, List.length_nil]; omega) (by have := HN2.out; omega))
     clear hown3 hb3 hbt
     go_wp2_with fail
     refine HP1.out.mono ?_
     rintro e w4 ⟨v4, rfl, hown4, hb4⟩
     have hbt4 := HB3.out.trans (hb4.mono hz3)
     have HB4 := Lib.hid hbt4
     have hz4 := hbt4.size
     have hvl := vecB_len l (by have := HN2.out; omega)
     have HP2 := Lib.hid (putVec_any v4 _ _ r w4 hown4.rd (HR.out.below hbt4 (Nat.le_refl _)) (by have := HN2.out; rw [List.length_append, List.length_append]; simp only [List.length_cons, List.length_nil]; omega) (by have := HN2.out; omega))
     clear hown4 hb4 hbt4 hvl
     go_wp2_with fail
     refine HP2.out.mono ?_
     rintro e w5 ⟨v5, rfl, hown5, hb5⟩
     have HO5 := Lib.hid (hown5.mono hz4)
     have HB5 := Lib.hid (HB4.out.trans (hb5.mono hz4))
     clear hown5 hb5
     go_wp2_with fail
     go_ret2
     exact ⟨HB5.out, _, rfl, HO5.out⟩
    ·have t6 : ((nr : Int) != 32) = true := by rw [bne_iff_ne]; omega
     rw [if_pos (.inr k6)]
     clear k5 k6
     go_enter Tryz.func174, Tryz.ntmps174
     go_wp2_with fail
     refine HNB.out.mono ?_
     rintro e w1 ⟨hb1, v1, rfl, hown⟩
     have hbk := (Blk.new w 54 _).below hb1 (by simp)
     have x0 := hbk.cell 0
     simp only [List.getElem?_toArray, List.getElem?_cons_zero] at x0
     have hz := hb1.size
     simp only [World.alloc] at hz
     have hgx : w.heap.size < w1.heap.size := by simp at hz; omega
     have HB1 := Lib.hid (((Below.refl w.heap.size w).alloc (Nat.le_refl _) (.cells #[.int .u8 (kd : Nat), .slice a1 m1 c1, .slice a2 m2 c2, .slice a3 m3 c3, .int .u8 (src : Nat), .slice a4 m4 c4, .slice a5 m5 c5, .slice b1 m6 e1, .slice b2 m7 e2, .slice b3 m8 e3] 54)).trans (hb1.mono (by simp)))
     clear hbk hb1 hz
     have HE := Lib.hid (textP_off 1 w _ HB1.out)
     clear hown
     go_wp2_with fail
     go_ret2
     exact HE.out
   ·have t5 : ((nl : Int) != 32) = true := by rw [bne_iff_ne]; omega
    rw [if_pos (.inl k5)]
    clear k5
    go_enter Tryz.func174, Tryz.ntmps174
    go_wp2_with fail
    refine HNB.out.mono ?_
    rintro e w1 ⟨hb1, v1, rfl, hown⟩
    have hbk := (Blk.new w 54 _).below hb1 (by simp)
    have x0 := hbk.cell 0
    simp only [List.getElem?_toArray, List.getElem?_cons_zero] at x0
    have hz := hb1.size
    simp only [World.alloc] at hz
    have hgx : w.heap.size < w1.heap.size := by simp at hz; omega
    have HB1 := Lib.hid (((Below.refl w.heap.size w).alloc (Nat.le_refl _) (.cells #[.int .u8 (kd : Nat), .slice a1 m1 c1, .slice a2 m2 c2, .slice a3 m3 c3, .int .u8 (src : Nat), .slice a4 m4 c4, .slice a5 m5 c5, .slice b1 m6 e1, .slice b2 m7 e2, .slice b3 m8 e3] 54)).trans (hb1.mono (by simp)))
    clear hbk hb1 hz
    have HE := Lib.hid (textP_off 1 w _ HB1.out)
    clear hown
    go_wp2_with fail
    go_ret2
    exact HE.out
end Go.Proofs.YtngealmhgkoaiaaGreat
/- Walks: the reference's join, Ahead, LeafBytes, Bytes of nodes. -/
namespace Go.Proofs.YtngealmhgkoaiaaGreat
open Go.RowKit WireM
set_option linter.unusedVariables false
set_option maxRecDepth 100000 in
set_option maxHeartbeats 1000000 in
theorem join16_any (x y : Value) (A B : List Nat) (w : World) (hx : Rd w x (bvs A)) (hy : Rd w y (bvs B)) (hl : A.length + B.length < 1000000000) :
  Calls Tryz.prog 145 #[x, y] w fun e w' => ∃ v', e = .returned v' ∧ Own w' w.heap.size 5 v' (bvs (A ++ B)) ∧ Below w.heap.size w w' := by
 have HX := Lib.hid hx
 have HY := Lib.hid hy
 clear hx hy
 go_enter Tryz.func145, Tryz.ntmps145
 go_wp2_with (at_builtin; refine wpList_app rfl (.tmp 5) (.tmp 6) 25 rfl w.heap.size 5 _ 1 bytesE _ [] rfl (Own.lit0 rfl (Nat.le_refl _)) _ (bvs A) rfl (HX.out.alloc _) (bvs_one _) ?c2 ?c3 ?_)
 case c2 => rw [bvs_len]; simp; omega
 case c3 => simp
 rintro v2 w2 hown - hb2
 have hbt := ((Below.refl w.heap.size w).alloc (Nat.le_refl _) (.cells #[] 5)).trans hb2
 have HO := Lib.hid hown
 have HB := Lib.hid hbt
 have HY2 := Lib.hid (HY.out.below hbt (Nat.le_refl _))
 clear hown hb2 hbt
 go_wp2_with (at_builtin; refine wpList_app rfl (.tmp 7) (.tmp 8) 25 rfl w.heap.size 5 _ 1 bytesE _ _ rfl HO.out _ (bvs B) rfl HY2.out (bvs_one _) ?c4 ?c5 ?_)
 case c4 => simp only [bvs_len]; omega
 case c5 => exact HB.out.size
 rintro v3 w3 hown - hb3
 have HO3 := Lib.hid hown
 have HB3 := Lib.hid (HB.out.trans hb3)
 clear hown hb3
 go_wp2_with fail
 go_ret
 refine ⟨_, rfl, ?_, HB3.out⟩
 rw [bvs_append]; exact HO3.out
theorem unsB_eq (d : LeafD) : unsB d = (vecB d.box ++ vecB d.sign) ++ (vecB d.ident ++ [d.source]) ++ (if d.source = 3 then vecB d.par else []) := by
 unfold unsB catB
 simp [List.append_assoc]
set_option maxRecDepth 100000 in
set_option maxHeartbeats 4000000 in
theorem ahead_any (d : LeafD) (a1 a2 a3 a4 a5 : Option Addr) (c1 c2 c3 c4 c5 : Nat) (w : World) (hs : SmallL d) (hsrc : d.source < 256)
  (h1 : Rd w (.slice a1 d.box.length c1) (bvs d.box)) (h2 : Rd w (.slice a2 d.sign.length c2) (bvs d.sign)) (h3 : Rd w (.slice a3 d.ident.length c3) (bvs d.ident)) (h4 : Rd w (.slice a4 d.par.length c4) (bvs d.par)) :
  Calls Tryz.prog 210 #[.agg #[.slice a1 d.box.length c1, .slice a2 d.sign.length c2, .slice a3 d.ident.length c3, .int .u8 (d.source : Nat), .slice a4 d.par.length c4, .slice a5 d.sig.length c5]] w
   fun e w' => ∃ v, e = .returned v ∧ Own w' w.heap.size 5 v (bvs (unsB d)) ∧ Below w.heap.size w w' := by
 obtain ⟨s1, s2, s3, s4, s5⟩ := hs
 have hu := unsB_eq d
 have l1 := vecB_len d.box (by omega)
 have l2 := vecB_len d.sign (by omega)
 have l3 := vecB_len d.ident (by omega)
 have l4 := vecB_len d.par (by omega)
 obtain ⟨n1, hn1⟩ : ∃ n, n = d.box.length := ⟨_, rfl⟩
 obtain ⟨n2, hn2⟩ : ∃ n, n = d.sign.length := ⟨_, rfl⟩
 obtain ⟨n3, hn3⟩ : ∃ n, n = d.ident.length := ⟨_, rfl⟩
 obtain ⟨n4, hn4⟩ : ∃ n, n = d.par.length := ⟨_, rfl⟩
 obtain ⟨n5, hn5⟩ : ∃ n, n = d.sig.length := ⟨_, rfl⟩
 obtain ⟨src, hsr⟩ : ∃ n, n = d.source := ⟨_, rfl⟩
 obtain ⟨D1, hD1⟩ : ∃ n, n = d.box := ⟨_, rfl⟩
 obtain ⟨D2, hD2⟩ : ∃ n, n = d.sign := ⟨_, rfl⟩
 obtain ⟨D3, hD3⟩ : ∃ n, n = d.ident := ⟨_, rfl⟩
 obtain ⟨D4, hD4⟩ : ∃ n, n = d.par := ⟨_, rfl⟩
 rw [← hn1, ← hn2, ← hn3, ← hn4, ← hn5, ← hsr]
 rw [← hn1] at h1 s1 l1
 rw [← hn2] at h2 s2 l2
 rw [← hn3] at h3 s3 l3
 rw [← hn4] at h4 s4 l4
 rw [← hsr] at hsrc hu
 rw [← hD1] at h1 hn1 hu l1
 rw [← hD2] at h2 hn2 hu l2
 rw [← hD3] at h3 hn3 hu l3
 rw [← hD4] at h4 hn4 hu l4
 obtain ⟨U, hU⟩ : ∃ u, u = unsB d := ⟨_, rfl⟩
 rw [← hU] at hu ⊢
 have hbk := Blk.new w 49 #[.slice a1 n1 c1, .slice a2 n2 c2, .slice a3 n3 c3, .int .u8 (src : Nat), .slice a4 n4 c4, .slice a5 n5 c5]
 have hw0 := (Below.refl w.heap.size w).alloc (Nat.le_refl _) (.cells #[.slice a1 n1 c1, .slice a2 n2 c2, .slice a3 n3 c3, .int .u8 (src : Nat), .slice a4 n4 c4, .slice a5 n5 c5] 49)
 have hz : (w.alloc (.cells #[.slice a1 n1 c1, .slice a2 n2 c2, .slice a3 n3 c3, .int .u8 (src : Nat), .slice a4 n4 c4, .slice a5 n5 c5] 49)).heap.size = w.heap.size + 1 := by simp
 obtain ⟨W1, hW1⟩ : ∃ W1, W1 = w.alloc (.cells #[.slice a1 n1 c1, .slice a2 n2 c2, .slice a3 n3 c3, .int .u8 (src : Nat), .slice a4 n4 c4, .slice a5 n5 c5] 49) := ⟨_, rfl⟩
 rw [← hW1] at hbk hw0 hz
 have r1 := h1.below hw0 (Nat.le_refl _)
 have r2 := h2.below hw0 (Nat.le_refl _)
 have r3 := h3.below hw0 (Nat.le_refl _)
 have r4 := h4.below hw0 (Nat.le_refl _)
 have y0 := hbk.cell 0
 have y1 := hbk.cell 1
 have y2 := hbk.cell 2
 have y3 := hbk.cell 3
 have y4 := hbk.cell 4
 simp only [List.getElem?_toArray, List.getElem?_cons_zero, List.getElem?_cons_succ] at y0 y1 y2 y3 y4
 have hgx : w.heap.size < W1.heap.size := by omega
 have HU := Lib.hid hu
 have HW1 := Lib.hid hW1
 have HW0 := Lib.hid hw0
 have HY3 := Lib.hid y3
 have HY4 := Lib.hid y4
 have HR4 := Lib.hid r4
 have HL := Lib.hid (show n1 = D1.length ∧ n2 = D2.length ∧ n3 = D3.length ∧ n4 = D4.length from ⟨hn1, hn2, hn3, hn4⟩)
 clear hbk hw0 hW1 hu hU hn1 hn2 hn3 hn4 hn5 hsr hD1 hD2 hD3 hD4 h1 h2 h3 h4
 go_enter Tryz.func210, Tryz.ntmps210
 go_wp2_with fail
 rw [← HW1.out]

 refine wp_region_once [fun v _ => v = .pointer (some ⟨w.heap.size, 0, none⟩), fun v _ => v = .slice a1 n1 c1, fun v w' => Own w' w.heap.size 5 v (bvs (vecB D1)), fun v _ => v = .pointer (some ⟨w.heap.size, 1, none⟩), fun v _ => v = .slice a2 n2 c2, fun v w' => Own w' w.heap.size 5 v (bvs (vecB D2)), fun v w' => Own w' w.heap.size 5 v (bvs ((vecB D1) ++ (vecB D2))), fun v _ => v = .pointer (some ⟨w.heap.size, 2, none⟩), fun v _ => v = .slice a3 n3 c3, fun v w' => Own w' w.heap.size 5 v (bvs (vecB D3)), fun v _ => v = .pointer (some ⟨w.heap.size, 3, none⟩), fun v _ => v = .int .u8 (src : Nat), fun v w' => Rd w' v (bvs [src]), fun v w' => Own w' w.heap.size 5 v (bvs (vecB D3 ++ [src])), fun v w' => Own w' w.heap.size 5 v (bvs ((vecB D1 ++ vecB D2) ++ (vecB D3 ++ [src]))), fun v w' => Own w' w.heap.size 5 v (bvs ((vecB D1 ++ vecB D2) ++ (vecB D3 ++ [src])))]
  (by kernel_rfl) ?_ (by kernel_rfl) (by kernel_rfl) ?_ ?_
 ·exact keeps_cons (fun _ _ _ h _ => h) (keeps_cons (fun _ _ _ h _ => h) (keeps_cons (fun v w1 w2 h hb => Own.below h hb (Nat.le_refl _)) (keeps_cons (fun _ _ _ h _ => h) (keeps_cons (fun _ _ _ h _ => h) (keeps_cons (fun v w1 w2 h hb => Own.below h hb (Nat.le_refl _)) (keeps_cons (fun v w1 w2 h hb => Own.below h hb (Nat.le_refl _)) (keeps_cons (fun _ _ _ h _ => h) (keeps_cons (fun _ _ _ h _ => h) (keeps_cons (fun v w1 w2 h hb => Own.below h hb (Nat.le_refl _)) (keeps_cons (fun _ _ _ h _ => h) (keeps_cons (fun _ _ _ h _ => h) (keeps_cons (fun v w1 w2 h hb => Rd.below h hb (Nat.le_refl _)) (keeps_cons (fun v w1 w2 h hb => Own.below h hb (Nat.le_refl _)) (keeps_cons (fun v w1 w2 h hb => Own.below h hb (Nat.le_refl _)) (keeps_cons (fun v w1 w2 h hb => Own.below h hb (Nat.le_refl _)) (keeps_nil))))))))))))))))
 ·refine .cons (owed_go rfl ?_) (.cons (owed_go rfl ?_) (.cons (owed_go rfl ?_) (.cons (owed_go rfl ?_) (.cons (owed_go rfl ?_) (.cons (owed_go rfl ?_) (.cons (owed_go rfl ?_) (.cons (owed_go rfl ?_) (.cons (owed_go rfl ?_) (.cons (owed_go rfl ?_) (.cons (owed_go rfl ?_) (.cons (owed_go rfl ?_) (.cons (owed_go rfl ?_) (.cons (owed_go rfl ?_) (.cons (owed_go rfl ?_) (.cons (owed_go rfl ?_) (.nil))))))))))))))))
  ·intro a wx hbx ho hf K hK
   have e0 : a.tmps[1]?.getD undef = .pointer (some ⟨w.heap.size, 0, none⟩) := ho 1 (by kernel_rfl)
   go_simp
   exact hK _ _ rfl (Below.refl _ _)
  ·intro a wx hbx ho hf K hK
   have e0 : a.tmps[4]?.getD undef = .pointer (some ⟨w.heap.size, 0, none⟩) := hf.1
   have c0 := (hbx.cell (p := ⟨w.heap.size, 0, none⟩) hgx).trans y0
   go_simp
   exact hK _ _ rfl (Below.refl _ _)
  ·intro a wx hbx ho hf K hK
   have e0 : a.tmps[5]?.getD undef = .slice a1 n1 c1 := hf.1
   go_simp
   refine (rvec_any _ D1 wx (r1.below hbx (Nat.le_refl _)) (by have := HL.out; omega)).mono ?_
   rintro e w2 ⟨v2, rfl, hown, hb2⟩
   exact hK _ _ (hown.mono (by have := hbx.size; omega)) hb2
  ·intro a wx hbx ho hf K hK
   have e0 : a.tmps[1]?.getD undef = .pointer (some ⟨w.heap.size, 0, none⟩) := ho 1 (by kernel_rfl)
   go_simp
   exact hK _ _ rfl (Below.refl _ _)
  ·intro a wx hbx ho hf K hK
   have e0 : a.tmps[7]?.getD undef = .pointer (some ⟨w.heap.size, 1, none⟩) := hf.1
   have c0 := (hbx.cell (p := ⟨w.heap.size, 1, none⟩) hgx).trans y1
   go_simp
   exact hK _ _ rfl (Below.refl _ _)
  ·intro a wx hbx ho hf K hK
   have e0 : a.tmps[8]?.getD undef = .slice a2 n2 c2 := hf.1
   go_simp
   refine (rvec_any _ D2 wx (r2.below hbx (Nat.le_refl _)) (by have := HL.out; omega)).mono ?_
   rintro e w2 ⟨v2, rfl, hown, hb2⟩
   exact hK _ _ (hown.mono (by have := hbx.size; omega)) hb2
  ·intro a wx hbx ho hf K hK
   have o1 : Own wx w.heap.size 5 (a.tmps[6]?.getD undef) (bvs (vecB D1)) := hf.1
   obtain ⟨v1, hv1⟩ : ∃ v, v = a.tmps[6]?.getD undef := ⟨_, rfl⟩
   rw [← hv1] at o1
   have e1 := hv1.symm
   clear hv1
   have o2 : Own wx w.heap.size 5 (a.tmps[9]?.getD undef) (bvs (vecB D2)) := hf.2.1
   obtain ⟨v2, hv2⟩ : ∃ v, v = a.tmps[9]?.getD undef := ⟨_, rfl⟩
   rw [← hv2] at o2
   have e2 := hv2.symm
   clear hv2
   go_simp
   refine (join16_any v1 v2 _ _ wx o1.rd o2.rd (by omega)).mono ?_
   rintro e w2 ⟨v9, rfl, hown, hb2⟩
   exact hK _ _ (hown.mono (by have := hbx.size; omega)) hb2
  ·intro a wx hbx ho hf K hK
   have e0 : a.tmps[1]?.getD undef = .pointer (some ⟨w.heap.size, 0, none⟩) := ho 1 (by kernel_rfl)
   go_simp
   exact hK _ _ rfl (Below.refl _ _)
  ·intro a wx hbx ho hf K hK
   have e0 : a.tmps[11]?.getD undef = .pointer (some ⟨w.heap.size, 2, none⟩) := hf.1
   have c0 := (hbx.cell (p := ⟨w.heap.size, 2, none⟩) hgx).trans y2
   go_simp
   exact hK _ _ rfl (Below.refl _ _)
  ·intro a wx hbx ho hf K hK
   have e0 : a.tmps[12]?.getD undef = .slice a3 n3 c3 := hf.1
   go_simp
   refine (rvec_any _ D3 wx (r3.below hbx (Nat.le_refl _)) (by have := HL.out; omega)).mono ?_
   rintro e w2 ⟨v2, rfl, hown, hb2⟩
   exact hK _ _ (hown.mono (by have := hbx.size; omega)) hb2
  ·intro a wx hbx ho hf K hK
   have e0 : a.tmps[1]?.getD undef = .pointer (some ⟨w.heap.size, 0, none⟩) := ho 1 (by kernel_rfl)
   go_simp
   exact hK _ _ rfl (Below.refl _ _)
  ·intro a wx hbx ho hf K hK
   have e0 : a.tmps[14]?.getD undef = .pointer (some ⟨w.heap.size, 3, none⟩) := hf.1
   have c0 := (hbx.cell (p := ⟨w.heap.size, 3, none⟩) hgx).trans y3
   go_simp
   exact hK _ _ rfl (Below.refl _ _)
  ·intro a wx hbx ho hf K hK
   have e0 : a.tmps[15]?.getD undef = .int .u8 (src : Nat) := hf.1
   go_simp
   exact hK _ _ (lit_rd (cs := #[.int .u8 (src : Nat)]) (L := [src]) rfl rfl (by simp)) ((Below.refl _ _).alloc (Nat.le_refl _) _)
  ·intro a wx hbx ho hf K hK
   have o1 : Own wx w.heap.size 5 (a.tmps[13]?.getD undef) (bvs (vecB D3)) := hf.1
   obtain ⟨v1, hv1⟩ : ∃ v, v = a.tmps[13]?.getD undef := ⟨_, rfl⟩
   rw [← hv1] at o1
   have e1 := hv1.symm
   clear hv1
   have o2 : Rd wx (a.tmps[16]?.getD undef) (bvs [src]) := hf.2.1
   obtain ⟨v2, hv2⟩ : ∃ v, v = a.tmps[16]?.getD undef := ⟨_, rfl⟩
   rw [← hv2] at o2
   have e2 := hv2.symm
   clear hv2
   go_simp
   refine (join16_any v1 v2 _ _ wx o1.rd o2 (by simp only [List.length_cons, List.length_nil]; omega)).mono ?_
   rintro e w2 ⟨v9, rfl, hown, hb2⟩
   exact hK _ _ (hown.mono (by have := hbx.size; omega)) hb2
  ·intro a wx hbx ho hf K hK
   have o1 : Own wx w.heap.size 5 (a.tmps[10]?.getD undef) (bvs (vecB D1 ++ vecB D2)) := hf.1
   obtain ⟨v1, hv1⟩ : ∃ v, v = a.tmps[10]?.getD undef := ⟨_, rfl⟩
   rw [← hv1] at o1
   have e1 := hv1.symm
   clear hv1
   have o2 : Own wx w.heap.size 5 (a.tmps[17]?.getD undef) (bvs (vecB D3 ++ [src])) := hf.2.1
   obtain ⟨v2, hv2⟩ : ∃ v, v = a.tmps[17]?.getD undef := ⟨_, rfl⟩
   rw [← hv2] at o2
   have e2 := hv2.symm
   clear hv2
   go_simp
   refine (join16_any v1 v2 _ _ wx o1.rd o2.rd (by simp only [List.length_append, List.length_cons, List.length_nil]; omega)).mono ?_
   rintro e w2 ⟨v9, rfl, hown, hb2⟩
   exact hK _ _ (hown.mono (by have := hbx.size; omega)) hb2
  ·intro a wx hbx ho hf K hK
   have o0 : Own wx w.heap.size 5 (a.tmps[18]?.getD undef) (bvs ((vecB D1 ++ vecB D2) ++ (vecB D3 ++ [src]))) := hf.1
   obtain ⟨v0, hv0⟩ : ∃ v, v = a.tmps[18]?.getD undef := ⟨_, rfl⟩
   rw [← hv0] at o0
   have e0 := hv0.symm
   clear hv0
   go_simp
   exact hK _ _ o0 (Below.refl _ _)
 ·rintro f w3 hb3 ⟨-, -, -, -, -, -, -, -, -, -, -, -, -, -, -, f8, -⟩
  have h8 : Own w3 w.heap.size 5 (f 3) (bvs ((vecB D1 ++ vecB D2) ++ (vecB D3 ++ [src]))) := f8
  have H8 := Lib.hid h8
  have x3 := (hb3.cell (p := ⟨w.heap.size, 3, none⟩) hgx).trans HY3.out
  have x4 := (hb3.cell (p := ⟨w.heap.size, 4, none⟩) hgx).trans HY4.out
  have HR := Lib.hid (HR4.out.below hb3 (Nat.le_refl _))
  have HB3 := Lib.hid (HW0.out.trans (hb3.mono (show w.heap.size ≤ W1.heap.size by omega)))
  have hgx3 : w.heap.size < w3.heap.size := by have := hb3.size; omega
  clear h8 f8 hb3 y0 y1 y2 y3 y4 r1 r2 r3 r4
  simp only [frameOf, dstsOf, zipF, List.filterMap_cons, List.filterMap_nil, List.contains_cons, List.contains_nil, Nat.reduceBEq, Nat.reduceAdd, Bool.or_false, Bool.or_true, cond_true, cond_false]
  by_cases k3 : src = 3
  ·have t3 : ((src : Int) == 3) = true := by rw [beq_iff_eq]; omega
   have HUU := HU.out
   rw [if_pos k3] at HUU
   have HU3 := Lib.hid HUU
   have HV := Lib.hid (rvec_any _ D4 w3 HR.out (by have := HL.out; omega))
   clear k3 HUU
   go_wp2_with fail
   refine HV.out.mono ?_
   rintro e w4 ⟨v4, rfl, hown, hb4⟩
   have HJ := Lib.hid (join16_any (f 3) v4 _ _ w4 (H8.out.rd.below hb4 (Nat.le_refl _)) hown.rd (by simp only [List.length_append, List.length_cons, List.length_nil]; omega))
   have hz4 := hb4.size
   have HB4 := Lib.hid (HB3.out.trans (hb4.mono (by omega)))
   clear hown hb4
   go_wp2_with fail
   refine HJ.out.mono ?_
   rintro e w5 ⟨v5, rfl, hown, hb5⟩
   have HO5 := Lib.hid (hown.mono (show w.heap.size ≤ w4.heap.size by omega))
   have HB5 := Lib.hid (HB4.out.trans (hb5.mono (by omega)))
   clear hown hb5
   go_wp2_with fail
   go_ret
   exact ⟨_, rfl, by rw [HU3.out]; exact HO5.out, HB5.out⟩
  ·have t3 : ((src : Int) == 3) = false := by rw [beq_eq_false_iff_ne]; omega
   have HUU := HU.out
   rw [if_neg k3, List.append_nil] at HUU
   have HU3 := Lib.hid HUU
   clear k3 HUU
   go_wp2_with fail
   go_ret
   exact ⟨_, rfl, by rw [HU3.out]; exact H8.out, HB3.out⟩
end Go.Proofs.YtngealmhgkoaiaaGreat
/- Walks: the reference's LeafBytes, Bytes of nodes. -/
namespace Go.Proofs.YtngealmhgkoaiaaGreat
open Go.RowKit WireM
set_option linter.unusedVariables false
def leafB (d : LeafD) : List Nat := unsB d ++ vecB d.sig
set_option maxRecDepth 100000 in
set_option maxHeartbeats 4000000 in
theorem rleafBytes_any (d : LeafD) (a1 a2 a3 a4 a5 : Option Addr) (c1 c2 c3 c4 c5 : Nat) (w : World) (hs : SmallL d) (hsrc : d.source < 256)
  (h1 : Rd w (.slice a1 d.box.length c1) (bvs d.box)) (h2 : Rd w (.slice a2 d.sign.length c2) (bvs d.sign)) (h3 : Rd w (.slice a3 d.ident.length c3) (bvs d.ident)) (h4 : Rd w (.slice a4 d.par.length c4) (bvs d.par)) (h5 : Rd w (.slice a5 d.sig.length c5) (bvs d.sig)) :
  Calls Tryz.prog 146 #[.agg #[.slice a1 d.box.length c1, .slice a2 d.sign.length c2, .slice a3 d.ident.length c3, .int .u8 (d.source : Nat), .slice a4 d.par.length c4, .slice a5 d.sig.length c5]] w
   fun e w' => ∃ v, e = .returned v ∧ Own w' w.heap.size 5 v (bvs (leafB d)) ∧ Below w.heap.size w w' := by
 have hul := unsB_len hs
 have hu : leafB d = unsB d ++ vecB d.sig := rfl
 have hsl := hs
 obtain ⟨s1, s2, s3, s4, s5⟩ := hs
 have l5 := vecB_len d.sig (by omega)
 have AH := fun W (hw : Below w.heap.size w W) => ahead_any d a1 a2 a3 a4 a5 c1 c2 c3 c4 c5 W hsl hsrc (h1.below hw (Nat.le_refl _)) (h2.below hw (Nat.le_refl _)) (h3.below hw (Nat.le_refl _)) (h4.below hw (Nat.le_refl _))
 obtain ⟨n1, hn1⟩ : ∃ n, n = d.box.length := ⟨_, rfl⟩
 obtain ⟨n2, hn2⟩ : ∃ n, n = d.sign.length := ⟨_, rfl⟩
 obtain ⟨n3, hn3⟩ : ∃ n, n = d.ident.length := ⟨_, rfl⟩
 obtain ⟨n4, hn4⟩ : ∃ n, n = d.par.length := ⟨_, rfl⟩
 obtain ⟨n5, hn5⟩ : ∃ n, n = d.sig.length := ⟨_, rfl⟩
 obtain ⟨src, hsr⟩ : ∃ n, n = d.source := ⟨_, rfl⟩
 rw [← hn1, ← hn2, ← hn3, ← hn4, ← hn5, ← hsr] at AH
 rw [← hn1, ← hn2, ← hn3, ← hn4, ← hn5, ← hsr]
 rw [← hn5] at h5 s5 l5
 have hbk := Blk.new w 49 #[.slice a1 n1 c1, .slice a2 n2 c2, .slice a3 n3 c3, .int .u8 (src : Nat), .slice a4 n4 c4, .slice a5 n5 c5]
 have hw0 := (Below.refl w.heap.size w).alloc (Nat.le_refl _) (.cells #[.slice a1 n1 c1, .slice a2 n2 c2, .slice a3 n3 c3, .int .u8 (src : Nat), .slice a4 n4 c4, .slice a5 n5 c5] 49)
 have hz : (w.alloc (.cells #[.slice a1 n1 c1, .slice a2 n2 c2, .slice a3 n3 c3, .int .u8 (src : Nat), .slice a4 n4 c4, .slice a5 n5 c5] 49)).heap.size = w.heap.size + 1 := by simp
 obtain ⟨W1, hW1⟩ : ∃ W1, W1 = w.alloc (.cells #[.slice a1 n1 c1, .slice a2 n2 c2, .slice a3 n3 c3, .int .u8 (src : Nat), .slice a4 n4 c4, .slice a5 n5 c5] 49) := ⟨_, rfl⟩
 rw [← hW1] at hbk hw0 hz
 have r5 := h5.below hw0 (Nat.le_refl _)
 have y0 := hbk.cell 0
 have y1 := hbk.cell 1
 have y2 := hbk.cell 2
 have y3 := hbk.cell 3
 have y4 := hbk.cell 4
 have y5 := hbk.cell 5
 simp only [List.getElem?_toArray, List.getElem?_cons_zero, List.getElem?_cons_succ] at y0 y1 y2 y3 y4 y5
 have hgx : w.heap.size < W1.heap.size := by omega
 have HU := Lib.hid hu
 have HW1 := Lib.hid hW1
 have HAH := Lib.hid AH
 have HN5 := Lib.hid hn5
 clear hbk hW1 hu hn1 hn2 hn3 hn4 hn5 hsr h1 h2 h3 h4 h5 AH hsl hsrc s1 s2 s3 s4
 go_enter Tryz.func146, Tryz.ntmps146
 go_wp2_with fail
 rw [← HW1.out]
 refine wp_region_once [fun v _ => v = .agg #[.slice a1 n1 c1, .slice a2 n2 c2, .slice a3 n3 c3, .int .u8 (src : Nat), .slice a4 n4 c4, .slice a5 n5 c5], fun v w' => Own w' w.heap.size 5 v (bvs (unsB d)), fun v _ => v = .pointer (some ⟨w.heap.size, 5, none⟩), fun v _ => v = .slice a5 n5 c5, fun v w' => Own w' w.heap.size 5 v (bvs (vecB d.sig)), fun v w' => Own w' w.heap.size 5 v (bvs ((unsB d) ++ (vecB d.sig))), fun v w' => Own w' w.heap.size 5 v (bvs (unsB d ++ vecB d.sig))]
  (by kernel_rfl) ?_ (by kernel_rfl) (by kernel_rfl) ?_ ?_
 ·exact keeps_cons (fun _ _ _ h _ => h) (keeps_cons (fun v w1 w2 h hb => Own.below h hb (Nat.le_refl _)) (keeps_cons (fun _ _ _ h _ => h) (keeps_cons (fun _ _ _ h _ => h) (keeps_cons (fun v w1 w2 h hb => Own.below h hb (Nat.le_refl _)) (keeps_cons (fun v w1 w2 h hb => Own.below h hb (Nat.le_refl _)) (keeps_cons (fun v w1 w2 h hb => Own.below h hb (Nat.le_refl _)) (keeps_nil)))))))
 ·refine .cons (owed_go rfl ?_) (.cons (owed_go rfl ?_) (.cons (owed_go rfl ?_) (.cons (owed_go rfl ?_) (.cons (owed_go rfl ?_) (.cons (owed_go rfl ?_) (.cons (owed_go rfl ?_) (.nil)))))))
  ·intro a wx hbx ho hf K hK
   have e0 : a.tmps[1]?.getD undef = .pointer (some ⟨w.heap.size, 0, none⟩) := ho 1 (by kernel_rfl)
   have c0 := (hbx.cell (p := ⟨w.heap.size, 0, none⟩) hgx).trans y0
   have c1 := (hbx.cell (p := ⟨w.heap.size, 1, none⟩) hgx).trans y1
   have c2 := (hbx.cell (p := ⟨w.heap.size, 2, none⟩) hgx).trans y2
   have c3 := (hbx.cell (p := ⟨w.heap.size, 3, none⟩) hgx).trans y3
   have c4 := (hbx.cell (p := ⟨w.heap.size, 4, none⟩) hgx).trans y4
   have c5 := (hbx.cell (p := ⟨w.heap.size, 5, none⟩) hgx).trans y5
   go_simp
   exact hK _ _ rfl (Below.refl _ _)
  ·intro a wx hbx ho hf K hK
   have e0 : a.tmps[3]?.getD undef = .agg #[.slice a1 n1 c1, .slice a2 n2 c2, .slice a3 n3 c3, .int .u8 (src : Nat), .slice a4 n4 c4, .slice a5 n5 c5] := hf.1
   go_simp
   refine (HAH.out wx (hw0.trans (hbx.mono (by omega)))).mono ?_
   rintro e w2 ⟨v2, rfl, hown, hb2⟩
   exact hK _ _ (hown.mono (by have := hbx.size; omega)) hb2
  ·intro a wx hbx ho hf K hK
   have e0 : a.tmps[1]?.getD undef = .pointer (some ⟨w.heap.size, 0, none⟩) := ho 1 (by kernel_rfl)
   go_simp
   exact hK _ _ rfl (Below.refl _ _)
  ·intro a wx hbx ho hf K hK
   have e0 : a.tmps[5]?.getD undef = .pointer (some ⟨w.heap.size, 5, none⟩) := hf.1
   have c0 := (hbx.cell (p := ⟨w.heap.size, 5, none⟩) hgx).trans y5
   go_simp
   exact hK _ _ rfl (Below.refl _ _)
  ·intro a wx hbx ho hf K hK
   have e0 : a.tmps[6]?.getD undef = .slice a5 n5 c5 := hf.1
   go_simp
   refine (rvec_any _ d.sig wx (r5.below hbx (Nat.le_refl _)) (by have := HN5.out; omega)).mono ?_
   rintro e w2 ⟨v2, rfl, hown, hb2⟩
   exact hK _ _ (hown.mono (by have := hbx.size; omega)) hb2
  ·intro a wx hbx ho hf K hK
   have o1 : Own wx w.heap.size 5 (a.tmps[4]?.getD undef) (bvs (unsB d)) := hf.1
   obtain ⟨v1, hv1⟩ : ∃ v, v = a.tmps[4]?.getD undef := ⟨_, rfl⟩
   rw [← hv1] at o1
   have e1 := hv1.symm
   clear hv1
   have o2 : Own wx w.heap.size 5 (a.tmps[7]?.getD undef) (bvs (vecB d.sig)) := hf.2.1
   obtain ⟨v2, hv2⟩ : ∃ v, v = a.tmps[7]?.getD undef := ⟨_, rfl⟩
   rw [← hv2] at o2
   have e2 := hv2.symm
   clear hv2
   go_simp
   refine (join16_any v1 v2 _ _ wx o1.rd o2.rd (by omega)).mono ?_
   rintro e w2 ⟨v9, rfl, hown, hb2⟩
   exact hK _ _ (hown.mono (by have := hbx.size; omega)) hb2
  ·intro a wx hbx ho hf K hK
   have o0 : Own wx w.heap.size 5 (a.tmps[8]?.getD undef) (bvs (unsB d ++ vecB d.sig)) := hf.1
   obtain ⟨v0, hv0⟩ : ∃ v, v = a.tmps[8]?.getD undef := ⟨_, rfl⟩
   rw [← hv0] at o0
   have e0 := hv0.symm
   clear hv0
   go_simp
   exact hK _ _ o0 (Below.refl _ _)
 ·rintro f w3 hb3 ⟨-, -, -, -, -, -, f8, -⟩
  have h8 : Own w3 w.heap.size 5 (f 2) (bvs (unsB d ++ vecB d.sig)) := f8
  have H8 := Lib.hid h8
  have HB3 := Lib.hid (hw0.trans (hb3.mono (show w.heap.size ≤ W1.heap.size by omega)))
  clear h8 f8 hb3 y0 y1 y2 y3 y4 y5 r5 hw0
  simp only [frameOf, dstsOf, zipF, List.filterMap_cons, List.filterMap_nil, List.contains_cons, List.contains_nil, Nat.reduceBEq, Nat.reduceAdd, Bool.or_false, Bool.or_true, cond_true, cond_false]
  go_wp2_with fail
  go_ret
  exact ⟨_, rfl, by rw [HU.out]; exact H8.out, HB3.out⟩
set_option maxRecDepth 100000 in
set_option maxHeartbeats 4000000 in
theorem rbytes_any (d : NodeD) (c : Array Value) (w : World) (h : NodeC w d c) (hk : NodeOk d) (hs : smallB d = true) (hlate : d.kind = 2 → ∀ x ∈ d.par.late, 0 ≤ x ∧ x < 65536) :
  Calls Tryz.prog 79 #[.agg c] w fun e w' => ∃ v, e = .returned v ∧ Own w' w.heap.size 5 v (bvs (nodeB d)) ∧ Below w.heap.size w w' := by
 have hsm := of_decide_eq_true hs
 have hsl : SmallL d.leaf := ⟨hsm.1, hsm.2.1, hsm.2.2.1, hsm.2.2.2.1, hsm.2.2.2.2.1⟩
 obtain ⟨a1, c1, a2, c2, a3, c3, a4, c4, a5, c5, b1, e1, b2, e2, b3, e3, rfl, h1, h2, h3, h4, h5, h6, h7, h8⟩ := h
 have LB := fun W (hw : Below w.heap.size w W) => rleafBytes_any d.leaf a1 a2 a3 a4 a5 c1 c2 c3 c4 c5 W hsl hk.source (h1.below hw (Nat.le_refl _)) (h2.below hw (Nat.le_refl _)) (h3.below hw (Nat.le_refl _)) (h4.below hw (Nat.le_refl _)) (h5.below hw (Nat.le_refl _))
 have hul := unsB_len hsl
 have hvl := vecB_len d.leaf.sig (by have := hsl.2.2.2.2; omega)
 have hll : (leafB d.leaf).length ≤ 1024 := by have := hsl.2.2.2.2; unfold leafB; rw [List.length_append]; omega
 have hn1 : d.kind = 1 → nodeB d = [1] ++ leafB d.leaf := fun h => by rw [nodeB, if_pos h]; rfl
 have hn2 : d.kind = 2 → nodeB d = (([2] ++ vecB d.par.box) ++ (vecB d.par.hash ++ vecB (lateL d.par.late))) := fun h => by
  rw [nodeB, if_neg (by omega), if_pos h, parB]
  simp [List.append_assoc]
 have hn0 : d.kind ≠ 1 → d.kind ≠ 2 → nodeB d = [0] := fun h h' => by rw [nodeB, if_neg h, if_neg h']
 have hp1 := hsm.2.2.2.2.2.1
 have hp2 := hsm.2.2.2.2.2.2.1
 have hp3 := hsm.2.2.2.2.2.2.2
 have hlen := slice_len h8
 have hget := fun r (hr : r < d.par.late.length) => h8.get (r := r) (show (ivs .i64 d.par.late)[r]? = some (.int .i64 (d.par.late.getD r 0)) by simp [ivs, hr])
 have hts := fun (r : Nat) (h : r < d.par.late.length) => (show d.par.late.take (r + 1) = d.par.late.take r ++ [d.par.late.getD r 0] by rw [List.take_succ_eq_append_getElem h, List.getD_eq_getElem?_getD, List.getElem?_eq_getElem h]; rfl)
 have hval := fun (h2 : d.kind = 2) (r : Nat) (h : r < d.par.late.length) => (show 0 ≤ d.par.late.getD r 0 ∧ d.par.late.getD r 0 < 65536 by rw [List.getD_eq_getElem?_getD, List.getElem?_eq_getElem h]; exact hlate h2 _ (List.getElem_mem h))
 have htl := fun r => lateL_len (d.par.late.take r)
 have v6 := vecB_len d.par.box (by omega)
 have v7 := vecB_len d.par.hash (by omega)
 obtain ⟨m1, hm1⟩ : ∃ b, b = d.leaf.box.length := ⟨_, rfl⟩
 obtain ⟨m2, hm2⟩ : ∃ b, b = d.leaf.sign.length := ⟨_, rfl⟩
 obtain ⟨m3, hm3⟩ : ∃ b, b = d.leaf.ident.length := ⟨_, rfl⟩
 obtain ⟨m4, hm4⟩ : ∃ b, b = d.leaf.par.length := ⟨_, rfl⟩
 obtain ⟨m5, hm5⟩ : ∃ b, b = d.leaf.sig.length := ⟨_, rfl⟩
 obtain ⟨m6, hm6⟩ : ∃ b, b = d.par.box.length := ⟨_, rfl⟩
 obtain ⟨m7, hm7⟩ : ∃ b, b = d.par.hash.length := ⟨_, rfl⟩
 obtain ⟨m8, hm8⟩ : ∃ b, b = d.par.late.length := ⟨_, rfl⟩
 obtain ⟨kd, hkk⟩ : ∃ b, b = d.kind := ⟨_, rfl⟩
 obtain ⟨src, hsrc⟩ : ∃ b, b = d.leaf.source := ⟨_, rfl⟩
 obtain ⟨PB, hPB⟩ : ∃ b, b = d.par.box := ⟨_, rfl⟩
 obtain ⟨PH, hPH⟩ : ∃ b, b = d.par.hash := ⟨_, rfl⟩
 obtain ⟨LT, hLT⟩ : ∃ b, b = d.par.late := ⟨_, rfl⟩
 obtain ⟨LL, hLL⟩ : ∃ b, b = leafB d.leaf := ⟨_, rfl⟩
 obtain ⟨NB, hNB⟩ : ∃ b, b = nodeB d := ⟨_, rfl⟩
 rw [← hm1, ← hm2, ← hm3, ← hm4, ← hm5, ← hm6, ← hm7, ← hm8, ← hkk, ← hsrc, ← hNB]
 obtain ⟨kz, hkz⟩ : ∃ kz : Int, kz = (kd : Int) := ⟨_, rfl⟩
 rw [← hkz]
 rw [← hm1, ← hm2, ← hm3, ← hm4, ← hm5, ← hsrc, ← hLL] at LB
 rw [← hm6] at h6 hp1 v6
 rw [← hm7] at h7 hp2 v7
 rw [← hm8] at hp3 hlen hget hts hval
 rw [← hkk] at hn0 hn1 hn2 hval
 rw [← hLL] at hn1 hll
 rw [← hPB] at h6 hm6 hn2 v6
 rw [← hPH] at h7 hm7 hn2 v7
 rw [← hLT] at hm8 hn2 hget hts hval htl
 rw [← hNB] at hn0 hn1 hn2
 have hw0 := (Below.refl w.heap.size w).alloc (Nat.le_refl _) (.cells #[.int .u8 kz, .slice a1 m1 c1, .slice a2 m2 c2, .slice a3 m3 c3, .int .u8 (src : Nat), .slice a4 m4 c4, .slice a5 m5 c5, .slice b1 m6 e1, .slice b2 m7 e2, .slice b3 m8 e3] 54)
 have hbk := Blk.new w 54 #[.int .u8 kz, .slice a1 m1 c1, .slice a2 m2 c2, .slice a3 m3 c3, .int .u8 (src : Nat), .slice a4 m4 c4, .slice a5 m5 c5, .slice b1 m6 e1, .slice b2 m7 e2, .slice b3 m8 e3]
 have hz : (w.alloc (.cells #[.int .u8 kz, .slice a1 m1 c1, .slice a2 m2 c2, .slice a3 m3 c3, .int .u8 (src : Nat), .slice a4 m4 c4, .slice a5 m5 c5, .slice b1 m6 e1, .slice b2 m7 e2, .slice b3 m8 e3] 54)).heap.size = w.heap.size + 1 := by simp
 obtain ⟨W1, hW1⟩ : ∃ W1, W1 = w.alloc (.cells #[.int .u8 kz, .slice a1 m1 c1, .slice a2 m2 c2, .slice a3 m3 c3, .int .u8 (src : Nat), .slice a4 m4 c4, .slice a5 m5 c5, .slice b1 m6 e1, .slice b2 m7 e2, .slice b3 m8 e3] 54) := ⟨_, rfl⟩
 rw [← hW1] at hw0 hbk hz
 have hgx : w.heap.size < W1.heap.size := by omega
 have x0 := hbk.cell 0
 have x1 := hbk.cell 1
 have x2 := hbk.cell 2
 have x3 := hbk.cell 3
 have x4 := hbk.cell 4
 have x5 := hbk.cell 5
 have x6 := hbk.cell 6
 have x7 := hbk.cell 7
 have x8 := hbk.cell 8
 have x9 := hbk.cell 9
 simp only [List.getElem?_toArray, List.getElem?_cons_zero, List.getElem?_cons_succ] at x0 x1 x2 x3 x4 x5 x6 x7 x8 x9
 have HLB := Lib.hid LB
 have HN0 := Lib.hid hn0
 have HN1 := Lib.hid hn1
 have HN2 := Lib.hid hn2
 have H6 := Lib.hid h6
 have H7 := Lib.hid h7
 have HM := Lib.hid (show m6 = PB.length ∧ m7 = PH.length ∧ m8 = LT.length from ⟨hm6, hm7, hm8⟩)
 have HW0 := Lib.hid hw0
 have HW1 := Lib.hid hW1
 have HGT := Lib.hid hget
 have HTS := Lib.hid hts
 have HV := Lib.hid hval
 have HTL := Lib.hid htl
 clear hsm hsl LB hn0 hn1 hn2 h1 h2 h3 h4 h5 h6 h7 h8 hm1 hm2 hm3 hm4 hm5 hm6 hm7 hm8 hkk hsrc hPB hPH hLT hLL hNB hW1 hget hts hval htl hs hk hlate hw0 hul hvl
 by_cases k1 : kd = 1
 ·obtain rfl : kz = 1 := by omega
  subst k1
  clear hkz
  go_enter Tryz.func79, Tryz.ntmps79
  go_wp2_with fail
  rw [← HW1.out]
  have hbt := HW0.out.alloc HW0.out.size (.cells #[.int .u8 1] 5)
  have HO : Hid (Rd (W1.alloc (.cells #[.int .u8 1] 5)) (.slice (some ⟨w.heap.size + 1, 0, none⟩) 1 1) (bvs [1])) := Lib.hid (lit_rd (w := W1) (cs := #[.int .u8 1]) (L := [1]) hz.symm rfl (by simp))
  refine (HLB.out _ hbt).mono ?_
  rintro e w3 ⟨v3, rfl, hown, hb3⟩
  have hz3 := hb3.size
  have HJ := Lib.hid (join16_any _ v3 [1] LL w3 (HO.out.below hb3 (Nat.le_refl _)) hown.rd (by simp only [List.length_cons, List.length_nil]; omega))
  have hbt3 := hbt.trans (hb3.mono hbt.size)
  have HB3 := Lib.hid hbt3
  have hws3 := hbt3.size
  clear hown hb3 hbt hbt3 hz3
  go_wp2_with fail
  refine HJ.out.mono ?_
  rintro e w4 ⟨v4, rfl, hown, hb4⟩
  have HO4 := Lib.hid (hown.mono hws3)
  have HB4 := Lib.hid (HB3.out.trans (hb4.mono hws3))
  clear hown hb4
  go_wp2_with fail
  go_ret
  exact ⟨_, rfl, by rw [HN1.out trivial]; exact HO4.out, HB4.out⟩
 ·have t1 : (kz == 1) = false := by rw [beq_eq_false_iff_ne]; omega
  by_cases k2 : kd = 2
  ·obtain rfl : kz = 2 := by omega
   subst k2
   clear k1 t1 hkz
   go_enter Tryz.func79, Tryz.ntmps79
   go_wp2_with fail
   rw [← HW1.out]
   go_loopg [3, 4] m8 (fun q lv i wr => ∃ r : Nat, r + q = m8 ∧ i = .int .i64 (r : Int) ∧ Rd wr lv (bvs (lateL (LT.take r))) ∧ Below (w.heap.size + 1) W1 wr)
   case atStart => exact ⟨0, by omega, rfl, ⟨none, 0, rfl, Nat.le_refl _, Nat.zero_le _, .inl ⟨rfl, fun _ => rfl⟩⟩, Below.refl _ _⟩
   case round =>
    obtain ⟨r, hr, rfl, hrl, hbw⟩ := hrel
    have HRL := Lib.hid hrl
    have HBW := Lib.hid hbw
    have hzw := hbw.size
    rw [hz] at hzw
    have y0 := (hbw.cell (p := ⟨w.heap.size, 0, none⟩) (Nat.lt_succ_self _)).trans x0
    have y7 := (hbw.cell (p := ⟨w.heap.size, 7, none⟩) (Nat.lt_succ_self _)).trans x7
    have y8 := (hbw.cell (p := ⟨w.heap.size, 8, none⟩) (Nat.lt_succ_self _)).trans x8
    have y9 := (hbw.cell (p := ⟨w.heap.size, 9, none⟩) (Nat.lt_succ_self _)).trans x9
    have hgw : w.heap.size < wr.heap.size := by omega
    clear hrl hbw
    by_cases hrk : r < m8
    ·obtain ⟨b1', o1', rfl, hb1', c0⟩ := HGT.out r hrk
     have c0' := (HBW.out.cell (p := ⟨b1', o1' + r, none⟩) (by simp only; omega)).trans ((HW0.out.cell (p := ⟨b1', o1' + r, none⟩) hb1').trans c0)
     have hts := HTS.out r hrk
     obtain ⟨q0, q1⟩ := HV.out trivial r hrk
     have hll' := HTL.out r
     obtain ⟨x, hx⟩ : ∃ x, x = LT.getD r 0 := ⟨_, rfl⟩
     rw [← hx] at c0' hts q0 q1
     obtain ⟨m, rfl⟩ : ∃ m : Nat, x = (m : Int) := ⟨x.toNat, by omega⟩
     have hl60 : (LT.take r).length ≤ r := List.length_take_le _ _
     have HPN := Lib.hid (fun W => rnum_any 4 m W (by omega) (by omega))
     have HT := Lib.hid hts
     have HLEN := Lib.hid (show (lateL (LT.take r)).length + (beN 4 m).length < 1000000000 by rw [beN_len]; omega)
     clear c0 hx hts hll' hl60 hb1'
     go_wp2_with fail
     refine (HPN.out _).mono ?_
     rintro e w2 ⟨v2, rfl, hown, hb2⟩
     have hz2 := hb2.size
     have HJ := Lib.hid (join16_any _ v2 _ _ w2 (HRL.out.below hb2 (Nat.le_refl _)) hown.rd HLEN.out)
     have HB2 := Lib.hid (HBW.out.trans (hb2.mono hzw))
     clear hown hb2
     go_wp2_with fail
     refine HJ.out.mono ?_
     rintro e w5 ⟨v5, rfl, hown, hb5⟩
     have HO5 := Lib.hid hown.rd
     have HB5 := Lib.hid (HB2.out.trans (hb5.mono (by omega)))
     clear hown hb5
     go_wp2_with fail
     go_roundg (gk - 1)
     case measure => omega
     case rel => exact ⟨r + 1, by omega, by go_num, by rw [HT.out, lateL_snoc, Int.toNat_natCast]; exact HO5.out, HB5.out⟩
    ·obtain rfl : r = m8 := by omega
     have ht : LT.take r = LT := by rw [HM.out.2.2, List.take_length]
     have hll' := HTL.out r
     rw [ht] at HRL hll'
     have hrk' : decide ((r : Int) < (r : Int)) = false := by rw [decide_eq_false_iff_not]; omega
     have hbw1 := HW0.out.trans (HBW.out.mono (by omega))
     have r1 := H6.out.below hbw1 (Nat.le_refl _)
     have r2 := H7.out.below hbw1 (Nat.le_refl _)
     have r3 := HRL.out
     have hws : w.heap.size ≤ wr.heap.size := by omega
     have HLT8 := Lib.hid (show (lateL LT).length ≤ 240 by have := HM.out.2.2; rw [hll']; omega)
     clear hll' ht
     go_wp2_with fail
     refine wp_region_once [fun v w' => Rd w' v (bvs [2]), fun v _ => v = .pointer (some ⟨w.heap.size, 7, none⟩), fun v _ => v = .pointer (some ⟨w.heap.size, 7, none⟩), fun v _ => v = .slice b1 m6 e1, fun v w' => Own w' w.heap.size 5 v (bvs (vecB PB)), fun v w' => Own w' w.heap.size 5 v (bvs (([2]) ++ (vecB PB))), fun v _ => v = .pointer (some ⟨w.heap.size, 7, none⟩), fun v _ => v = .pointer (some ⟨w.heap.size, 8, none⟩), fun v _ => v = .slice b2 m7 e2, fun v w' => Own w' w.heap.size 5 v (bvs (vecB PH)), fun v w' => Rd w' v (bvs (lateL LT)), fun v w' => Own w' w.heap.size 5 v (bvs (vecB (lateL LT))), fun v w' => Own w' w.heap.size 5 v (bvs ((vecB PH) ++ (vecB (lateL LT)))), fun v w' => Own w' w.heap.size 5 v (bvs (([2] ++ vecB PB) ++ (vecB PH ++ vecB (lateL LT)))), fun v w' => Own w' w.heap.size 5 v (bvs (([2] ++ vecB PB) ++ (vecB PH ++ vecB (lateL LT))))]
      (by kernel_rfl) ?_ (by kernel_rfl) (by kernel_rfl) ?_ ?_
     ·exact keeps_cons (fun v w1 w2 h hb => Rd.below h hb (Nat.le_refl _)) (keeps_cons (fun _ _ _ h _ => h) (keeps_cons (fun _ _ _ h _ => h) (keeps_cons (fun _ _ _ h _ => h) (keeps_cons (fun v w1 w2 h hb => Own.below h hb (Nat.le_refl _)) (keeps_cons (fun v w1 w2 h hb => Own.below h hb (Nat.le_refl _)) (keeps_cons (fun _ _ _ h _ => h) (keeps_cons (fun _ _ _ h _ => h) (keeps_cons (fun _ _ _ h _ => h) (keeps_cons (fun v w1 w2 h hb => Own.below h hb (Nat.le_refl _)) (keeps_cons (fun v w1 w2 h hb => Rd.below h hb (Nat.le_refl _)) (keeps_cons (fun v w1 w2 h hb => Own.below h hb (Nat.le_refl _)) (keeps_cons (fun v w1 w2 h hb => Own.below h hb (Nat.le_refl _)) (keeps_cons (fun v w1 w2 h hb => Own.below h hb (Nat.le_refl _)) (keeps_cons (fun v w1 w2 h hb => Own.below h hb (Nat.le_refl _)) (keeps_nil)))))))))))))))
     ·refine .cons (owed_go rfl ?_) (.cons (owed_go rfl ?_) (.cons (owed_go rfl ?_) (.cons (owed_go rfl ?_) (.cons (owed_go rfl ?_) (.cons (owed_go rfl ?_) (.cons (owed_go rfl ?_) (.cons (owed_go rfl ?_) (.cons (owed_go rfl ?_) (.cons (owed_go rfl ?_) (.cons (owed_go rfl ?_) (.cons (owed_go rfl ?_) (.cons (owed_go rfl ?_) (.cons (owed_go rfl ?_) (.cons (owed_go rfl ?_) (.nil)))))))))))))))
      ·intro a wx hbx ho hf K hK
       go_simp
       exact hK _ _ (lit_rd (cs := #[.int .u8 2]) (L := [2]) rfl rfl (by simp)) ((Below.refl _ _).alloc (Nat.le_refl _) _)
      ·intro a wx hbx ho hf K hK
       have e0 : a.tmps[1]?.getD undef = .pointer (some ⟨w.heap.size, 0, none⟩) := ho 1 (by kernel_rfl)
       go_simp
       exact hK _ _ rfl (Below.refl _ _)
      ·intro a wx hbx ho hf K hK
       have e0 : a.tmps[35]?.getD undef = .pointer (some ⟨w.heap.size, 7, none⟩) := hf.1
       go_simp
       exact hK _ _ rfl (Below.refl _ _)
      ·intro a wx hbx ho hf K hK
       have e0 : a.tmps[36]?.getD undef = .pointer (some ⟨w.heap.size, 7, none⟩) := hf.1
       have c0 := (hbx.cell (p := ⟨w.heap.size, 7, none⟩) hgw).trans y7
       go_simp
       exact hK _ _ rfl (Below.refl _ _)
      ·intro a wx hbx ho hf K hK
       have e0 : a.tmps[37]?.getD undef = .slice b1 m6 e1 := hf.1
       go_simp
       refine (rvec_any _ PB wx (r1.below hbx (Nat.le_refl _)) (by have := HM.out; omega)).mono ?_
       rintro e w2 ⟨v2, rfl, hown, hb2⟩
       exact hK _ _ (hown.mono (by have := hbx.size; omega)) hb2
      ·intro a wx hbx ho hf K hK
       have o1 : Rd wx (a.tmps[34]?.getD undef) (bvs [2]) := hf.1
       obtain ⟨v1, hv1⟩ : ∃ v, v = a.tmps[34]?.getD undef := ⟨_, rfl⟩
       rw [← hv1] at o1
       have e1 := hv1.symm
       clear hv1
       have o2 : Own wx w.heap.size 5 (a.tmps[38]?.getD undef) (bvs (vecB PB)) := hf.2.1
       obtain ⟨v2, hv2⟩ : ∃ v, v = a.tmps[38]?.getD undef := ⟨_, rfl⟩
       rw [← hv2] at o2
       have e2 := hv2.symm
       clear hv2
       go_simp
       refine (join16_any v1 v2 _ _ wx o1 o2.rd (by simp only [List.length_cons, List.length_nil]; omega)).mono ?_
       rintro e w2 ⟨v9, rfl, hown, hb2⟩
       exact hK _ _ (hown.mono (by have := hbx.size; omega)) hb2
      ·intro a wx hbx ho hf K hK
       have e0 : a.tmps[1]?.getD undef = .pointer (some ⟨w.heap.size, 0, none⟩) := ho 1 (by kernel_rfl)
       go_simp
       exact hK _ _ rfl (Below.refl _ _)
      ·intro a wx hbx ho hf K hK
       have e0 : a.tmps[40]?.getD undef = .pointer (some ⟨w.heap.size, 7, none⟩) := hf.1
       go_simp
       exact hK _ _ rfl (Below.refl _ _)
      ·intro a wx hbx ho hf K hK
       have e0 : a.tmps[41]?.getD undef = .pointer (some ⟨w.heap.size, 8, none⟩) := hf.1
       have c0 := (hbx.cell (p := ⟨w.heap.size, 8, none⟩) hgw).trans y8
       go_simp
       exact hK _ _ rfl (Below.refl _ _)
      ·intro a wx hbx ho hf K hK
       have e0 : a.tmps[42]?.getD undef = .slice b2 m7 e2 := hf.1
       go_simp
       refine (rvec_any _ PH wx (r2.below hbx (Nat.le_refl _)) (by have := HM.out; omega)).mono ?_
       rintro e w2 ⟨v2, rfl, hown, hb2⟩
       exact hK _ _ (hown.mono (by have := hbx.size; omega)) hb2
      ·intro a wx hbx ho hf K hK
       have e0 : a.tmps[3]?.getD undef = u3 := ho 3 (by kernel_rfl)
       go_simp
       exact hK _ _ (r3.below hbx (Nat.le_refl _)) (Below.refl _ _)
      ·intro a wx hbx ho hf K hK
       have o1 : Rd wx (a.tmps[44]?.getD undef) (bvs (lateL LT)) := hf.1
       obtain ⟨v1, hv1⟩ : ∃ v, v = a.tmps[44]?.getD undef := ⟨_, rfl⟩
       rw [← hv1] at o1
       have e1 := hv1.symm
       clear hv1
       go_simp
       refine (rvec_any v1 (lateL LT) wx o1 (by have := HLT8.out; omega)).mono ?_
       rintro e w2 ⟨v2, rfl, hown, hb2⟩
       exact hK _ _ (hown.mono (by have := hbx.size; omega)) hb2
      ·intro a wx hbx ho hf K hK
       have o1 : Own wx w.heap.size 5 (a.tmps[43]?.getD undef) (bvs (vecB PH)) := hf.1
       obtain ⟨v1, hv1⟩ : ∃ v, v = a.tmps[43]?.getD undef := ⟨_, rfl⟩
       rw [← hv1] at o1
       have e1 := hv1.symm
       clear hv1
       have o2 : Own wx w.heap.size 5 (a.tmps[45]?.getD undef) (bvs (vecB (lateL LT))) := hf.2.1
       obtain ⟨v2, hv2⟩ : ∃ v, v = a.tmps[45]?.getD undef := ⟨_, rfl⟩
       rw [← hv2] at o2
       have e2 := hv2.symm
       clear hv2
       go_simp
       refine (join16_any v1 v2 _ _ wx o1.rd o2.rd (by have := HLT8.out; have := vecB_len (lateL LT) (by omega); omega)).mono ?_
       rintro e w2 ⟨v9, rfl, hown, hb2⟩
       exact hK _ _ (hown.mono (by have := hbx.size; omega)) hb2
      ·intro a wx hbx ho hf K hK
       have o1 : Own wx w.heap.size 5 (a.tmps[39]?.getD undef) (bvs ([2] ++ vecB PB)) := hf.1
       obtain ⟨v1, hv1⟩ : ∃ v, v = a.tmps[39]?.getD undef := ⟨_, rfl⟩
       rw [← hv1] at o1
       have e1 := hv1.symm
       clear hv1
       have o2 : Own wx w.heap.size 5 (a.tmps[46]?.getD undef) (bvs (vecB PH ++ vecB (lateL LT))) := hf.2.1
       obtain ⟨v2, hv2⟩ : ∃ v, v = a.tmps[46]?.getD undef := ⟨_, rfl⟩
       rw [← hv2] at o2
       have e2 := hv2.symm
       clear hv2
       go_simp
       refine (join16_any v1 v2 _ _ wx o1.rd o2.rd (by have := HLT8.out; have := vecB_len (lateL LT) (by omega); simp only [List.length_append, List.length_cons, List.length_nil]; omega)).mono ?_
       rintro e w2 ⟨v9, rfl, hown, hb2⟩
       exact hK _ _ (hown.mono (by have := hbx.size; omega)) hb2
      ·intro a wx hbx ho hf K hK
       have o0 : Own wx w.heap.size 5 (a.tmps[47]?.getD undef) (bvs (([2] ++ vecB PB) ++ (vecB PH ++ vecB (lateL LT)))) := hf.1
       obtain ⟨v0, hv0⟩ : ∃ v, v = a.tmps[47]?.getD undef := ⟨_, rfl⟩
       rw [← hv0] at o0
       have e0 := hv0.symm
       clear hv0
       go_simp
       exact hK _ _ o0 (Below.refl _ _)
     ·rintro f w3 hb3 ⟨-, -, -, -, -, -, -, -, -, -, -, -, -, -, f8, -⟩
      have h8 : Own w3 w.heap.size 5 (f 2) (bvs (([2] ++ vecB PB) ++ (vecB PH ++ vecB (lateL LT)))) := f8
      have H8 := Lib.hid h8
      have HB3 := Lib.hid (hbw1.trans (hb3.mono hws))
      clear h8 f8 hb3 r1 r2 r3 hbw1
      simp only [frameOf, dstsOf, zipF, List.filterMap_cons, List.filterMap_nil, List.contains_cons, List.contains_nil, Nat.reduceBEq, Nat.reduceAdd, Bool.or_false, Bool.or_true, cond_true, cond_false]
      go_wp2_with fail
      go_ret
      exact ⟨_, rfl, by rw [HN2.out trivial]; exact H8.out, HB3.out⟩
  ·have t2 : (kz == 2) = false := by rw [beq_eq_false_iff_ne]; omega
   have HN := Lib.hid (HN0.out k1 k2)
   clear k1 k2 hkz
   go_enter Tryz.func79, Tryz.ntmps79
   go_wp2_with fail
   rw [← HW1.out]
   go_ret
   refine ⟨_, rfl, ?_, HW0.out.alloc HW0.out.size _⟩
   rw [HN.out]
   exact Own.full (w := W1) (B := w.heap.size) (e := 5) (cs := #[.int .u8 0]) hz.symm (Nat.le_succ _) (by unfold maxLen; simp) (n := 1) rfl
end Go.Proofs.YtngealmhgkoaiaaGreat
