/- Walks: the reference's Right of nodes. -/
import Derived.Test.YtohldijomcljkaaZHashTrees09
namespace Go.Proofs.Ytohldijomcljkaa
open Go.RowKit WireM
set_option linter.unusedVariables false
def noLeafD : LeafD := ⟨[], [], [], 0, [], []⟩
def noParD : ParD := ⟨[], [], []⟩
def noNodeD : NodeD := ⟨0, noLeafD, noParD⟩
theorem rd_nil (w : World) : Rd w (.slice none 0 0) (bvs []) := ⟨none, 0, rfl, Nat.le_refl _, Nat.zero_le _, .inl ⟨rfl, fun _ => rfl⟩⟩
theorem rd_nili (w : World) : Rd w (.slice none 0 0) (ivs .i64 []) := ⟨none, 0, rfl, Nat.le_refl _, Nat.zero_le _, .inl ⟨rfl, fun _ => rfl⟩⟩
theorem noNode_c (w : World) : NodeC w noNodeD #[.int .u8 0, .slice none 0 0, .slice none 0 0, .slice none 0 0, .int .u8 0, .slice none 0 0, .slice none 0 0, .slice none 0 0, .slice none 0 0, .slice none 0 0] :=
  ⟨none, 0, none, 0, none, 0, none, 0, none, 0, none, 0, none, 0, none, 0, rfl, rd_nil w, rd_nil w, rd_nil w, rd_nil w, rd_nil w, rd_nil w, rd_nil w, rd_nili w⟩
theorem noNode_ok : NodeOk noNodeD := by constructor <;> simp [noNodeD, noLeafD, noParD]
theorem sameL_no (d : LeafD) : sameNB ⟨0, d, noParD⟩ noNodeD = nlB d.box.length d.sign.length d.ident.length d.source d.par.length d.sig.length := by
  rw [sameNB, nlB]
  apply decide_eq_decide.2
  have e : sameLB d noLeafD = true ↔ (d.box = [] ∧ d.sign = [] ∧ d.ident = [] ∧ d.source = 0 ∧ d.par = [] ∧ d.sig = []) := by
    unfold sameLB; rw [decide_eq_true_iff]; exact Iff.rfl
  constructor
  · rintro ⟨_, h, _⟩
    obtain ⟨h1, h2, h3, h4, h5, h6⟩ := e.1 h
    rw [h1, h2, h3, h4, h5, h6]
    exact ⟨rfl, rfl⟩
  · rintro ⟨h1, h2⟩
    exact ⟨rfl, e.2 ⟨List.eq_nil_of_length_eq_zero (by omega), List.eq_nil_of_length_eq_zero (by omega), List.eq_nil_of_length_eq_zero (by omega), h1, List.eq_nil_of_length_eq_zero (by omega), List.eq_nil_of_length_eq_zero (by omega)⟩, rfl, rfl, rfl⟩
theorem sameP_no (p : ParD) : sameNB ⟨0, noLeafD, p⟩ noNodeD = npB p.box.length p.hash.length p.late.length := by
  rw [sameNB, npB]
  apply decide_eq_decide.2
  have hl : sameLB noLeafD noLeafD = true := by decide
  constructor
  · rintro ⟨_, _, h1, h2, h3⟩
    have h1' : p.box = [] := h1
    have h2' : p.hash = [] := h2
    have h3' : p.late = [] := h3
    rw [h1', h2', h3']
    rfl
  · intro h
    have h' : p.box.length + p.hash.length + p.late.length = 0 := h
    have q1 : p.box = [] := List.eq_nil_of_length_eq_zero (by omega)
    have q2 : p.hash = [] := List.eq_nil_of_length_eq_zero (by omega)
    have q3 : p.late = [] := List.eq_nil_of_length_eq_zero (by omega)
    exact ⟨rfl, hl, q1, q2, q3⟩
theorem bcell {W w1 : World} (hb : Below W.heap.size W w1) : ∀ b o, b < W.heap.size → w1.cell? ⟨b, o, none⟩ = W.cell? ⟨b, o, none⟩ := fun b o h => hb.cell (p := ⟨b, o, none⟩) h
set_option maxRecDepth 100000 in
set_option maxHeartbeats 8000000 in
theorem rright_any (d : NodeD) (c : Array Value) (w : World) (h : NodeC w d c) (hk : NodeOk d) :
    Calls Try.prog 57 #[.agg c] w fun e w' => e = .returned (.bool (rightB d)) ∧ Below w.heap.size w w' := by
  obtain ⟨a1, c1, a2, c2, a3, c3, a4, c4, a5, c5, b1, e1, b2, e2, b3, e3, rfl, h1, h2, h3, h4, h5, h6, h7, h8⟩ := h
  have SLF := fun W (hw : Below w.heap.size w W) => rsameNode_any ⟨0, d.leaf, noParD⟩ noNodeD _ _ W ⟨a1, c1, a2, c2, a3, c3, a4, c4, a5, c5, none, 0, none, 0, none, 0, rfl, h1.below hw (Nat.le_refl _), h2.below hw (Nat.le_refl _), h3.below hw (Nat.le_refl _), h4.below hw (Nat.le_refl _), h5.below hw (Nat.le_refl _), rd_nil W, rd_nil W, rd_nili W⟩
    (noNode_c W) ⟨by simp, hk.source, hk.box, hk.sign, hk.ident, hk.par, hk.sig, by simp [noParD], by simp [noParD], by simp [noParD]⟩ noNode_ok
  have SPR := fun W (hw : Below w.heap.size w W) => rsameNode_any ⟨0, noLeafD, d.par⟩ noNodeD _ _ W ⟨none, 0, none, 0, none, 0, none, 0, none, 0, b1, e1, b2, e2, b3, e3, rfl, rd_nil W, rd_nil W, rd_nil W, rd_nil W, rd_nil W, h6.below hw (Nat.le_refl _), h7.below hw (Nat.le_refl _), h8.below hw (Nat.le_refl _)⟩
    (noNode_c W) ⟨by simp, by simp [noLeafD], by simp [noLeafD], by simp [noLeafD], by simp [noLeafD], by simp [noLeafD], by simp [noLeafD], hk.pbox, hk.hash, hk.late⟩ noNode_ok
  simp only [sameL_no] at SLF
  simp only [sameP_no] at SPR
  have RL := fun W => rrightLeaf_any a1 a2 a3 a4 a5 d.leaf.box.length d.leaf.sign.length d.leaf.ident.length d.leaf.par.length d.leaf.sig.length c1 c2 c3 c4 c5 d.leaf.source W
  have RP := fun W (hw : Below w.heap.size w W) => rrightParent_any b1 b2 b3 d.par.box.length d.par.hash.length e1 e2 e3 d.par.late W (h8.below hw (Nat.le_refl _))
  have hB : rightB d = (if d.kind = 0 then nlB d.leaf.box.length d.leaf.sign.length d.leaf.ident.length d.leaf.source d.leaf.par.length d.leaf.sig.length && npB d.par.box.length d.par.hash.length d.par.late.length
    else if d.kind = 1 then rlB d.leaf.box.length d.leaf.sign.length d.leaf.ident.length d.leaf.source d.leaf.par.length d.leaf.sig.length && npB d.par.box.length d.par.hash.length d.par.late.length
    else if d.kind = 2 then nlB d.leaf.box.length d.leaf.sign.length d.leaf.ident.length d.leaf.source d.leaf.par.length d.leaf.sig.length && rpB d.par.box.length d.par.hash.length d.par.late else false) := rfl
  rw [hB]
  simp only [show noLeafD.box = [] from rfl, show noLeafD.sign = [] from rfl, show noLeafD.ident = [] from rfl, show noLeafD.source = 0 from rfl, show noLeafD.par = [] from rfl, show noLeafD.sig = [] from rfl, show noParD.box = [] from rfl, show noParD.hash = [] from rfl, show noParD.late = [] from rfl, List.length_nil] at SLF SPR
  obtain ⟨m1, hm1⟩ : ∃ b, b = d.leaf.box.length := ⟨_, rfl⟩
  obtain ⟨m2, hm2⟩ : ∃ b, b = d.leaf.sign.length := ⟨_, rfl⟩
  obtain ⟨m3, hm3⟩ : ∃ b, b = d.leaf.ident.length := ⟨_, rfl⟩
  obtain ⟨m4, hm4⟩ : ∃ b, b = d.leaf.par.length := ⟨_, rfl⟩
  obtain ⟨m5, hm5⟩ : ∃ b, b = d.leaf.sig.length := ⟨_, rfl⟩
  obtain ⟨m6, hm6⟩ : ∃ b, b = d.par.box.length := ⟨_, rfl⟩
  obtain ⟨m7, hm7⟩ : ∃ b, b = d.par.hash.length := ⟨_, rfl⟩
  obtain ⟨m8, hm8⟩ : ∃ b, b = d.par.late.length := ⟨_, rfl⟩
  obtain ⟨src, hsrc⟩ : ∃ b, b = d.leaf.source := ⟨_, rfl⟩
  obtain ⟨kd, hkd⟩ : ∃ b, b = d.kind := ⟨_, rfl⟩
  rw [← hm1, ← hm2, ← hm3, ← hm4, ← hm5, ← hsrc] at RL
  rw [← hm6, ← hm7, ← hm8] at RP
  rw [← hm1, ← hm2, ← hm3, ← hm4, ← hm5, ← hsrc] at SLF
  rw [← hm6, ← hm7, ← hm8] at SPR
  rw [← hm1, ← hm2, ← hm3, ← hm4, ← hm5, ← hm6, ← hm7, ← hm8, ← hsrc, ← hkd]
  obtain ⟨rl, hrl⟩ : ∃ b, b = rlB m1 m2 m3 src m4 m5 := ⟨_, rfl⟩
  obtain ⟨nl, hnl⟩ : ∃ b, b = nlB m1 m2 m3 src m4 m5 := ⟨_, rfl⟩
  obtain ⟨np, hnp⟩ : ∃ b, b = npB m6 m7 m8 := ⟨_, rfl⟩
  obtain ⟨rp, hrp⟩ : ∃ b, b = rpB m6 m7 d.par.late := ⟨_, rfl⟩
  rw [← hrl] at RL ⊢
  rw [← hnl] at SLF ⊢
  rw [← hnp] at SPR ⊢
  rw [← hrp] at RP ⊢
  have HSLF := Lib.hid SLF
  have HSPR := Lib.hid SPR
  have HRL := Lib.hid RL
  have HRP := Lib.hid RP
  clear SLF SPR RL RP hB h1 h2 h3 h4 h5 h6 h7 h8 hm1 hm2 hm3 hm4 hm5 hm6 hm7 hm8 hsrc hkd hrl hnl hnp hrp hk
  by_cases k0 : kd = 0
  · subst k0
    rw [if_pos rfl]
    go_enter Try.func57, Try.ntmps57
    go_wp2_with fail
    go_region
    all_goals
      go_wp2_with fail
      refine (HSLF.out _ (by repeat any_goals (first | exact Below.refl _ _ | exact Nat.le_refl _ | refine Below.alloc ?_ ?_ _ | refine Below.draw1 ?_ | refine Below.setCell ?_ ?_ _ | (simp; done) | (simp; omega)))).mono ?_
      rintro e w3 ⟨rfl, hb3⟩
      have hc3 := bcell hb3
      have hz3 := hb3.size
      have HB3 : Hid (Below w.heap.size w w3) := Lib.hid (Below.trans (by repeat any_goals (first | exact Below.refl _ _ | exact Nat.le_refl _ | refine Below.alloc ?_ ?_ _ | refine Below.draw1 ?_ | refine Below.setCell ?_ ?_ _ | (simp; done) | (simp; omega))) (hb3.mono (by simp; omega)))
      clear hb3
      simp only [World.alloc, World.drew, Array.size_push] at hz3
      cases nl with
      | true =>
        have hg0 : w.heap.size < w3.heap.size := by omega
        have hg1 : w.heap.size + 1 < w3.heap.size := by omega
        have hg2 : w.heap.size + 1 + 1 < w3.heap.size := by omega
        go_wp2_with fail
        refine (HSPR.out _ HB3.out).mono ?_
        rintro e w4 ⟨rfl, hb4⟩
        have HB4 := Lib.hid (HB3.out.trans (hb4.mono (by omega)))
        clear hb4
        go_wp2_with fail
        go_ret
        exact ⟨rfl, HB4.out⟩
      | false =>
        go_wp2_with fail
        go_ret
        exact ⟨rfl, HB3.out⟩
  · by_cases k1 : kd = 1
    · subst k1
      rw [if_neg (by omega), if_pos rfl]
      go_enter Try.func57, Try.ntmps57
      go_wp2_with fail
      go_region
      all_goals
        go_wp2_with fail
        refine (HRL.out _).mono ?_
        rintro e w3 ⟨rfl, hb3⟩
        have hc3 := bcell hb3
        have hz3 := hb3.size
        have HB3 : Hid (Below w.heap.size w w3) := Lib.hid (Below.trans (by repeat any_goals (first | exact Below.refl _ _ | exact Nat.le_refl _ | refine Below.alloc ?_ ?_ _ | refine Below.draw1 ?_ | refine Below.setCell ?_ ?_ _ | (simp; done) | (simp; omega))) (hb3.mono (by simp; omega)))
        clear hb3
        simp only [World.alloc, World.drew, Array.size_push] at hz3
        cases rl with
        | true =>
          have hg0 : w.heap.size < w3.heap.size := by omega
          have hg1 : w.heap.size + 1 < w3.heap.size := by omega
          have hg2 : w.heap.size + 1 + 1 < w3.heap.size := by omega
          go_wp2_with fail
          refine (HSPR.out _ HB3.out).mono ?_
          rintro e w4 ⟨rfl, hb4⟩
          have HB4 := Lib.hid (HB3.out.trans (hb4.mono (by omega)))
          clear hb4
          go_wp2_with fail
          go_ret
          exact ⟨rfl, HB4.out⟩
        | false =>
          go_wp2_with fail
          go_ret
          exact ⟨rfl, HB3.out⟩
    · by_cases k2 : kd = 2
      · subst k2
        rw [if_neg (by omega), if_neg (by omega), if_pos rfl, Bool.and_comm]
        go_enter Try.func57, Try.ntmps57
        go_wp2_with fail
        go_region
        all_goals
          go_wp2_with fail
          refine (HRP.out _ (by repeat any_goals (first | exact Below.refl _ _ | exact Nat.le_refl _ | refine Below.alloc ?_ ?_ _ | refine Below.draw1 ?_ | refine Below.setCell ?_ ?_ _ | (simp; done) | (simp; omega)))).mono ?_
          rintro e w3 ⟨rfl, hb3⟩
          have hc3 := bcell hb3
          have hz3 := hb3.size
          have HB3 : Hid (Below w.heap.size w w3) := Lib.hid (Below.trans (by repeat any_goals (first | exact Below.refl _ _ | exact Nat.le_refl _ | refine Below.alloc ?_ ?_ _ | refine Below.draw1 ?_ | refine Below.setCell ?_ ?_ _ | (simp; done) | (simp; omega))) (hb3.mono (by simp; omega)))
          clear hb3
          simp only [World.alloc, World.drew, Array.size_push] at hz3
          cases rp with
          | true =>
            have hg0 : w.heap.size < w3.heap.size := by omega
            have hg1 : w.heap.size + 1 < w3.heap.size := by omega
            have hg2 : w.heap.size + 1 + 1 < w3.heap.size := by omega
            go_wp2_with fail
            refine (HSLF.out _ HB3.out).mono ?_
            rintro e w4 ⟨rfl, hb4⟩
            have HB4 := Lib.hid (HB3.out.trans (hb4.mono (by omega)))
            clear hb4
            go_wp2_with fail
            go_ret
            exact ⟨rfl, HB4.out⟩
          | false =>
            go_wp2_with fail
            go_ret
            exact ⟨rfl, HB3.out⟩
      · rw [if_neg k0, if_neg k1, if_neg k2]
        have t0 : ((kd : Int) == 0) = false := by rw [beq_eq_false_iff_ne]; omega
        have t1 : ((kd : Int) == 1) = false := by rw [beq_eq_false_iff_ne]; omega
        have t2 : ((kd : Int) == 2) = false := by rw [beq_eq_false_iff_ne]; omega
        clear k0 k1 k2
        go_enter Try.func57, Try.ntmps57
        go_wp2_with fail
        go_region
        all_goals
          go_wp2_with fail
          go_ret
          exact ⟨rfl, (by repeat any_goals (first | exact Below.refl _ _ | exact Nat.le_refl _ | refine Below.alloc ?_ ?_ _ | refine Below.draw1 ?_ | refine Below.setCell ?_ ?_ _ | (simp; done) | (simp; omega)))⟩
end Go.Proofs.Ytohldijomcljkaa
/- Plain mathematics: the nodes of a tree in a row: levels and ancestors. -/
namespace Go.Proofs.Ytohldijomcljkaa.WalkM

/-- l ones end the number, then a nought -/
def IsLev (x l : Nat) : Prop := x % 2 ^ (l + 1) = 2 ^ l - 1
/-- the node of the level j that is x or is above it -/
def anc (x j : Nat) : Nat := x / 2 ^ (j + 1) * 2 ^ (j + 1) + (2 ^ j - 1)

theorem pow_pos' (k : Nat) : 0 < 2 ^ k := Nat.pos_of_ne_zero (by simp)
theorem ones_mod {m k : Nat} (h : k ≤ m) : (2 ^ m - 1) % 2 ^ k = 2 ^ k - 1 := by
  obtain ⟨d, rfl⟩ : ∃ d, m = k + d := ⟨m - k, by omega⟩
  have hk := pow_pos' k
  have hd := pow_pos' d
  rw [Nat.pow_add]
  have e : 2 ^ k * 2 ^ d - 1 = 2 ^ k - 1 + 2 ^ k * (2 ^ d - 1) := by
    rw [Nat.mul_sub_one]
    have : 2 ^ k ≤ 2 ^ k * 2 ^ d := Nat.le_mul_of_pos_right _ hd
    omega
  rw [e, Nat.add_mul_mod_self_left]
  exact Nat.mod_eq_of_lt (by omega)
theorem lev_lt {x l m : Nat} (hl : IsLev x l) (hm : IsLev x m) : ¬ l < m := by
  intro h
  unfold IsLev at hl hm
  have h1 : x % 2 ^ (l + 1) = 2 ^ (l + 1) - 1 := by
    have h2 : x % 2 ^ (m + 1) % 2 ^ (l + 1) = x % 2 ^ (l + 1) := Nat.mod_mod_of_dvd _ (Nat.pow_dvd_pow 2 (by omega))
    rw [hm, ones_mod (by omega)] at h2
    exact h2.symm
  rw [hl, Nat.pow_succ] at h1
  have := pow_pos' l
  omega
theorem lev_unique {x l m : Nat} (hl : IsLev x l) (hm : IsLev x m) : l = m := by
  have := lev_lt hl hm
  have := lev_lt hm hl
  omega
theorem anc_lev (x j : Nat) : IsLev (anc x j) j := by
  unfold IsLev anc
  rw [Nat.mul_comm, Nat.mul_add_mod]
  have := pow_pos' j
  exact Nat.mod_eq_of_lt (by rw [Nat.pow_succ]; omega)
theorem anc_self {x l : Nat} (h : IsLev x l) : anc x l = x := by
  unfold anc
  rw [← h, Nat.mul_comm]
  exact Nat.div_add_mod x _
theorem anc_div {x j k : Nat} (h : j ≤ k) : anc x j / 2 ^ (k + 1) = x / 2 ^ (k + 1) := by
  obtain ⟨d, rfl⟩ : ∃ d, k = j + d := ⟨k - j, by omega⟩
  have hp := pow_pos' (j + 1)
  have h1 : 2 ^ j - 1 < 2 ^ (j + 1) := by
    have := pow_pos' j
    rw [Nat.pow_succ]; omega
  rw [show j + d + 1 = j + 1 + d from by omega, Nat.pow_add, ← Nat.div_div_eq_div_mul, ← Nat.div_div_eq_div_mul]
  congr 1
  unfold anc
  rw [Nat.mul_comm, Nat.mul_add_div hp, Nat.div_eq_of_lt h1, Nat.add_zero]
theorem anc_anc {x j k : Nat} (h : j ≤ k) : anc (anc x j) k = anc x k := by
  unfold anc
  rw [show (x / 2 ^ (j + 1) * 2 ^ (j + 1) + (2 ^ j - 1)) = anc x j from rfl, anc_div h]
/-- the level of a node: counted -/
def tones : Nat → Nat → Nat
  | 0, _ => 0
  | f + 1, x => if x % 2 = 1 then tones f (x / 2) + 1 else 0
theorem tones_lev : ∀ f x, x + 1 < 2 ^ f → IsLev x (tones f x) := by
  intro f
  induction f with
  | zero => intro x h; simp at h
  | succ f ih =>
    intro x h
    unfold tones
    by_cases hx : x % 2 = 1
    · rw [if_pos hx]
      have hr := ih (x / 2) (by rw [Nat.pow_succ] at h; omega)
      unfold IsLev at hr ⊢
      rw [Nat.pow_succ, Nat.mul_comm, Nat.mod_mul, hx, hr]
      have := pow_pos' (tones f (x / 2))
      rw [Nat.pow_succ]
      omega
    · rw [if_neg hx]
      unfold IsLev
      simp; omega
theorem tones_lt : ∀ f x, x + 1 < 2 ^ f → tones f x < f := by
  intro f
  induction f with
  | zero => intro x h; simp at h
  | succ f ih =>
    intro x h
    unfold tones
    split
    · have := ih (x / 2) (by rw [Nat.pow_succ] at h; omega); omega
    · omega
/-- the level of a node below 2 to 17 less 1 -/
def lev (x : Nat) : Nat := tones 17 x
theorem lev_is {x : Nat} (h : x ≤ 131070) : IsLev x (lev x) := tones_lev 17 x (by omega)
theorem lev_le {x : Nat} (h : x ≤ 131070) : lev x ≤ 16 := by have := tones_lt 17 x (by omega); unfold lev; omega
theorem lev_eq {x l : Nat} (h : x ≤ 131070) (hl : IsLev x l) : lev x = l := lev_unique (lev_is h) hl
/-- a node's part of the row -/
theorem anc_bounds (x j : Nat) : x / 2 ^ (j + 1) * 2 ^ (j + 1) ≤ x ∧ x < x / 2 ^ (j + 1) * 2 ^ (j + 1) + 2 ^ (j + 1) := by
  have h := Nat.div_add_mod x (2 ^ (j + 1))
  have h2 := Nat.mod_lt x (pow_pos' (j + 1))
  rw [Nat.mul_comm] at h
  omega
end Go.Proofs.Ytohldijomcljkaa.WalkM
