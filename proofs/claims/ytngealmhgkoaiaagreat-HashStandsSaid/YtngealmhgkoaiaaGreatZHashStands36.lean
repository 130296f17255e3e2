/- Walks: the reference's Digest. -/
import Derived.Test.YtngealmhgkoaiaaGreatZHashStands35
import Derived.Test.YtngealmhgkoaiaaGreatZHashStands30
import Derived.Test.YtngealmhgkoaiaaGreatZHashStands31
import Derived.Test.YtngealmhgkoaiaaGreatZHashStands33
import Derived.Test.YtngealmhgkoaiaaGreatZHashStands32
namespace Go.Proofs.YtngealmhgkoaiaaGreat
open Go.RowKit ShaM WireM
set_option linter.unusedVariables false
set_option maxRecDepth 100000 in
set_option maxHeartbeats 1000000 in
theorem digest_any (v : Value) (L : List Nat) (w : World) (h : Rd w v (bvs L)) (hL : ∀ x ∈ L, x < 256) (hl : L.length ≤ 1000000) :
  Calls Tryz.prog 114 #[v] w fun e w' => ∃ v', e = .returned v' ∧ Own w' w.heap.size 5 v' (bvs (shaF L)) ∧ Below w.heap.size w w' := by
 have TB := Lib.hid (table_any w)
 have RS := Lib.hid (fun (W : World) (hw : Below w.heap.size w W) (vh vk : Value) (hh : Rd W vh (qvs HL0)) (hk : Rd W vk (qvs KL)) => rsum_any v vh vk L W (h.below hw (Nat.le_refl _)) hh hk hL hl)
 clear h hL hl
 go_enter Tryz.func114, Tryz.ntmps114
 go_wp2_with fail
 refine (TB.out).mono ?_
 rintro e w1 ⟨v1, v2, rfl, h1, h2, hb⟩
 have C := Lib.hid (RS.out w1 hb v1 v2 h1 h2)
 have HB := Lib.hid hb
 clear h1 h2 hb
 go_wp2_with fail
 refine (C.out).mono ?_
 rintro e w2 ⟨v3, rfl, hown, hb2⟩
 have HO := Lib.hid hown
 have HB2 := Lib.hid (HB.out.trans (hb2.mono HB.out.size))
 clear hown hb2
 go_wp2_with fail
 go_ret
 exact ⟨_, rfl, HO.out.mono HB.out.size, HB2.out⟩
end Go.Proofs.YtngealmhgkoaiaaGreat
/- Walks: the reference's Hash of any node of a tree that may be, without some leaves' places. -/
namespace Go.Proofs.YtngealmhgkoaiaaGreat
open Go.RowKit WalkM ShaM WireM
set_option linter.unusedVariables false
set_option maxRecDepth 100000 in
set_option maxHeartbeats 1000000 in
theorem rhash_of (t : List NodeD) (ps : List Int) (hs : smallT t = true) (hok : TreeOk t) (k : Nat) (hT : RTextP t ps k) : RHashP t ps k := by
 intro x v vp w h hpr hlev hx
 have C := Lib.hid (hT x v vp w h hpr hlev hx)
 have hl := textN_len (woD_small hs ps) k x
 have hlt := textN_lt' (woD t ps) (woD_ok hok ps) (woD_small hs ps) k x
 have HE := Lib.hid (hashN_eq (woD t ps) k x)
 obtain ⟨TX, hTX⟩ : ∃ T, T = textN (woD t ps) k x := ⟨_, rfl⟩
 rw [← hTX] at C hl hlt HE
 rw [HE.out]
 have HL := Lib.hid (show TX.length ≤ 1000000 by omega)
 have HLT := Lib.hid hlt
 obtain ⟨a1, a2, a3, rfl⟩ : ∃ a b c, v = .slice a b c := by obtain ⟨a, c, e, _⟩ := h.sl; exact ⟨_, _, _, e⟩
 clear hl hlt hTX h hpr hlev hx hT
 go_enter Tryz.func91, Tryz.ntmps91
 go_wp2_with fail
 refine (C.out).mono ?_
 rintro e w1 ⟨v1, rfl, hown, hb⟩
 have HR := Lib.hid hown.rd
 have HB := Lib.hid hb
 clear hown hb
 go_wp2_with fail
 refine (digest_any _ TX w1 HR.out HLT.out HL.out).mono ?_
 rintro e w2 ⟨v2, rfl, hown, hb⟩
 have HO := Lib.hid (hown.mono HB.out.size)
 have HB2 := Lib.hid (HB.out.trans (hb.mono HB.out.size))
 clear hown hb
 go_wp2_with fail
 go_ret
 exact ⟨_, rfl, HO.out, HB2.out⟩
theorem rboth_any (t : List NodeD) (ps : List Int) (hs : smallT t = true) (hok : TreeOk t) (hp : placedB t = true) : ∀ k, RTextP t ps k ∧ RHashP t ps k := by
 intro k
 induction k with
 | zero => have h := rtext_zero t ps hs hok hp; exact ⟨h, rhash_of t ps hs hok 0 h⟩
 | succ k ih => have h := rtext_succ t ps hs hok hp k ih.2; exact ⟨h, rhash_of t ps hs hok (k + 1) h⟩
end Go.Proofs.YtngealmhgkoaiaaGreat
/- Walks: the law HashTrees. -/
namespace Go.Proofs.YtngealmhgkoaiaaGreat
open Go.RowKit WalkM ShaM WireM
set_option linter.unusedVariables false
/-- the reference's hash of any node -/
theorem rhashX_any (t : List NodeD) (hs : smallT t = true) (hok : TreeOk t) (hr : rightT t = true) (x : Nat) (hx : x < t.length) (v vp : Value) (ps : List Int) (w : World) (h : TreeR w v t) (hp : Rd w vp (ivs .i64 ps)) :
  Calls Tryz.prog 91 #[v, .int .i64 (x : Nat), vp] w fun e w' => ∃ v', e = .returned v' ∧ Own w' w.heap.size 5 v' (bvs (hashX (woD t ps) x)) ∧ Below w.heap.size w w' := by
 obtain ⟨hln, hpl⟩ : leavesN t.length ≠ 0 ∧ placedB t = true := by
  rw [rightT, Bool.and_eq_true, Bool.and_eq_true] at hr
  exact ⟨of_decide_eq_true hr.1, hr.2.1⟩
 obtain ⟨d, hd, hN, hl⟩ := leavesN_pos hln
 have hlen := smallT_len hs
 have e : 2 ^ (d + 1) = 2 * 2 ^ d := by rw [Nat.pow_succ]; omega
 exact (rboth_any t ps hs hok hpl (lev x)).2 x v vp w h hp (lev_is (by omega)) (by have := under_in (x := x) (d := d) (by omega) hd; omega)
end Go.Proofs.YtngealmhgkoaiaaGreat
/- Walks: hash.seen, the reference's Seen. -/
namespace Go.Proofs.YtngealmhgkoaiaaGreat
open Go.RowKit WalkM ShaM WireM
set_option linter.unusedVariables false
theorem wrap_in {a : Int} (h : -9223372036854775808 ≤ a ∧ a ≤ 9223372036854775807) : wrap64 a = a := by unfold wrap64; omega
theorem w64_add {l r s : Nat} (h : s = l + r) (hs : s ≤ 1000) : wrap64 ((l : Int) + (r : Int)) = (s : Int) := by
 subst h
 rw [wrap_in ⟨by omega, by omega⟩, Int.natCast_add]
theorem w64_sub {s c o : Nat} (h : s = c + o) (ho : o ≤ 1000) : wrap64 ((s : Int) - (c : Int)) = (o : Int) := by
 have e : (s : Int) - (c : Int) = (o : Int) := by subst h; omega
 rw [e, wrap_in ⟨by omega, by omega⟩]
/-- what is digested of a parent, seen from a child; the other child is told -/
def seenT (t : List NodeD) (p o : Nat) : List Nat := (vecB (nd t p).par.box ++ vecB (nd t p).par.hash) ++ vecB (hashX (woD t (nd t p).par.late) o)
theorem seenT_len {t : List NodeD} (hs : smallT t = true) (p o : Nat) : (seenT t p o).length ≤ 1000 := by
 have hsm := of_decide_eq_true (smallT_nd hs p)
 have h1 := vecB_len (nd t p).par.box (by omega)
 have h2 := vecB_len (nd t p).par.hash (by omega)
 have h3 := vecB32 (hashX_len (woD t (nd t p).par.late) o)
 unfold seenT
 rw [List.length_append, List.length_append]; omega
theorem seenT_lt {t : List NodeD} (hs : smallT t = true) (hok : TreeOk t) (p o : Nat) : ∀ y ∈ seenT t p o, y < 256 := by
 have hsm := of_decide_eq_true (smallT_nd hs p)
 have hk := hok.nd p
 intro y hy
 unfold seenT at hy
 simp only [List.mem_append] at hy
 rcases hy with (hy | hy) | hy
 ·exact vecB_lt (by omega) hk.pbox y hy
 ·exact vecB_lt (by omega) hk.hash y hy
 ·exact vecB_lt (by rw [hashX_len]; omega) (hashX_lt _ _) y hy
set_option maxRecDepth 100000 in
set_option maxHeartbeats 4000000 in
theorem seen_any (v : Value) (t : List NodeD) (p l r c0 o : Nat) (w : World) (h : TreeR w v t) (hs : smallT t = true) (hok : TreeOk t) (hr : rightT t = true) (hpn : p < t.length) (hon : o < t.length) (hl : leftZ (p : Int) = (l : Int)) (hrr : rightZ (p : Int) = (r : Int)) (hsum : l + r = c0 + o) (hsz : l + r ≤ 1000) :
  Calls Tryz.prog 150 #[v, .int .i64 (p : Nat), .int .i64 (c0 : Nat)] w fun e w' => ∃ v', e = .returned v' ∧ Rd w' v' (bvs (shaF (seenT t p o))) ∧ Below w.heap.size w w' := by
 have HDG := fun (W : World) (hw : Below w.heap.size w W) (vp : Value) (hp : Rd W vp (ivs .i64 (nd t p).par.late)) => hashed_any v vp t (nd t p).par.late o W (h.below hw (Nat.le_refl _)) hp hs hok hr (by have := of_decide_eq_true (smallT_nd hs p); omega) hon
 have LF := fun (W : World) => wleft_any (p : Int) W
 have RT := fun (W : World) => wright_any (p : Int) W
 rw [hl] at LF
 rw [hrr] at RT
 have hslen := seenT_len hs p o
 have hslt := seenT_lt hs hok p o
 have hV3 : seenT t p o = (([] ++ vecB (nd t p).par.box) ++ vecB (nd t p).par.hash) ++ vecB (hashX (woD t (nd t p).par.late) o) := by rw [List.nil_append]; rfl
 have hxl := hashX_len (woD t (nd t p).par.late) o
 have hlen := smallT_len hs
 have hsm := of_decide_eq_true (smallT_nd hs p)
 have hl6 : (nd t p).par.box.length ≤ 200 := by omega
 have hl7 : (nd t p).par.hash.length ≤ 200 := by omega
 have hl8 : (nd t p).par.late.length ≤ 60 := by omega
 obtain ⟨ta, c, rfl, hc, hc2⟩ := h.sl
 obtain ⟨b, off, cs, rfl, hbl, hnc, hra⟩ := h.node hpn
 obtain ⟨a1, c1, a2, c2, a3, c3, a4, c4, a5, c5, b1, e1, b2, e2, b3, e3, rfl, h1, h2, h3, h4, h5, h6, h7, h8⟩ := hnc
 have c7 := hra 7 _ rfl
 have c8 := hra 8 _ rfl
 have c9 := hra 9 _ rfl
 have v1l := vecB_len (nd t p).par.box (by omega)
 have v2l := vecB_len (nd t p).par.hash (by omega)
 have P1 := fun (W : World) (hw : Below w.heap.size w W) => putVec_any (.slice none 0 0) _ [] _ W (Own.nil W 0 5).rd (h6.below hw (Nat.le_refl _)) (by simp) (by omega)
 have P2 := fun (W : World) (hw : Below w.heap.size w W) (x : Value) (hx : Rd W x (bvs ([] ++ vecB (nd t p).par.box))) => putVec_any x _ _ _ W hx (h7.below hw (Nat.le_refl _)) (by rw [List.nil_append]; omega) (by omega)
 have P3 := fun (W : World) (hw : Below w.heap.size w W) (x y : Value) (hx : Rd W x (bvs (([] ++ vecB (nd t p).par.box) ++ vecB (nd t p).par.hash))) (hy : Rd W y (bvs (hashX (woD t (nd t p).par.late) o))) => putVec_any x y _ _ W hx hy (by rw [List.nil_append, List.length_append]; omega) (by omega)
 have HD := fun (W : World) (hw : Below w.heap.size w W) => HDG W hw _ (h8.below hw (Nat.le_refl _))
 rw [← hV3] at P3
 obtain ⟨V1, hV1⟩ : ∃ V, V = [] ++ vecB (nd t p).par.box := ⟨_, rfl⟩
 rw [← hV1] at P1 P2 P3
 obtain ⟨V2, hV2⟩ : ∃ V, V = V1 ++ vecB (nd t p).par.hash := ⟨_, rfl⟩
 rw [← hV2] at P2 P3
 obtain ⟨HO, hHO⟩ : ∃ V, V = hashX (woD t (nd t p).par.late) o := ⟨_, rfl⟩
 rw [← hHO] at P3 HD
 obtain ⟨V3, hV3'⟩ : ∃ V, V = seenT t p o := ⟨_, rfl⟩
 rw [← hV3'] at P3 hslen hslt ⊢
 have SO := fun (W : World) (g : Nat) (u : Value) (hg : g < W.heap.size) (hc : W.cell? ⟨g, 0, none⟩ = some u) (hu : Rd W u (bvs V3)) => (shaof_any g u V3 W hc hg hu hslt (by omega)).mono (fun e w' (he : ∃ b, e = .returned (.slice (some ⟨b, 0, none⟩) 32 32) ∧ W.heap.size ≤ b ∧ b < w'.heap.size ∧ Rd w' (.slice (some ⟨b, 0, none⟩) 32 32) (bvs (shaF V3)) ∧ Below W.heap.size W w') => (show ∃ b, e = .returned (.slice (some ⟨b, 0, none⟩) 32 32) ∧ Rd w' (.slice (some ⟨b, 0, none⟩) 32 32) (bvs (shaF V3)) ∧ Below W.heap.size W w' from by
  obtain ⟨b, e1, _, _, e2, e3⟩ := he
  exact ⟨b, e1, e2, e3⟩))
 obtain ⟨SH, hSH⟩ : ∃ S, S = shaF V3 := ⟨_, rfl⟩
 rw [← hSH] at SO ⊢
 obtain ⟨l6, hl6'⟩ : ∃ l, l = (nd t p).par.box.length := ⟨_, rfl⟩
 obtain ⟨l7, hl7'⟩ : ∃ l, l = (nd t p).par.hash.length := ⟨_, rfl⟩
 obtain ⟨l8, hl8'⟩ : ∃ l, l = (nd t p).par.late.length := ⟨_, rfl⟩
 rw [← hl6'] at c7 P1
 rw [← hl7'] at c8 P2
 rw [← hl8'] at c9 HD
 obtain ⟨n, hn⟩ : ∃ n, n = t.length := ⟨_, rfl⟩
 rw [← hn] at HD hc hpn hlen ⊢
 have hpI : (p : Int) < (n : Int) := by omega
 obtain ⟨s, hs0⟩ : ∃ s : Nat, s = l + r := ⟨_, rfl⟩
 have ho2 : o ≤ 1000 := by clear hs0; omega
 have hs2 : s ≤ 1000 := by omega
 have hw1 : wrap64 ((l : Int) + (r : Int)) = (s : Int) := w64_add hs0 hs2
 have hw2 : wrap64 ((s : Int) - (c0 : Int)) = (o : Int) := w64_sub (by rw [hs0]; exact hsum) ho2
 have HLF := Lib.hid LF
 have HRT := Lib.hid RT
 have HP1 := Lib.hid P1
 have HP2 := Lib.hid P2
 have HP30 := Lib.hid P3
 have HHD0 := Lib.hid HD
 have HSO := Lib.hid SO
 clear LF RT P1 P2 P3 HD SO HDG ho2 hs2 hs0 hsum hsz hl hrr hslen hslt hV3 hV3' hV1 hV2 hHO hSH hl6' hl7' hl8' hxl hsm v1l v2l h1 h2 h3 h4 h5 h6 h7 h8 hra h hs hok hr hon hn hl6 hl7 hl8
 go_enter Tryz.func150, Tryz.ntmps150
 go_wp2_with fail
 refine (HLF.out _).mono ?_
 rintro e w' ⟨rfl, rfl⟩
 go_wp2_with fail
 refine (HRT.out _).mono ?_
 rintro e w' ⟨rfl, rfl⟩
 go_wp2_with fail
 refine wp_region_rel [fun v _ => v = .slice (some ⟨b, off, none⟩) n c, fun v _ => v = .int .i64 (p : Nat), fun v _ => v = .pointer (some ⟨b, off + p * 10, none⟩), fun v _ => v = .pointer (some ⟨b, off + p * 10 + 7, none⟩), fun v _ => v = .pointer (some ⟨b, off + p * 10 + 7, none⟩), fun v _ => v = .slice b1 l6 e1, fun v w' => Own w' w.heap.size 5 v (bvs V1), fun v _ => v = .slice (some ⟨b, off, none⟩) n c, fun v _ => v = .int .i64 (p : Nat), fun v _ => v = .pointer (some ⟨b, off + p * 10, none⟩), fun v _ => v = .pointer (some ⟨b, off + p * 10 + 7, none⟩), fun v _ => v = .pointer (some ⟨b, off + p * 10 + 8, none⟩), fun v _ => v = .slice b2 l7 e2, fun v w' => Own w' w.heap.size 5 v (bvs V2), fun v w' => Own w' w.heap.size 5 v (bvs V2)]
  [true, true, true, true, true, true, true, true, true, true, true, true, true, true, true] (fun x => Below w.heap.size w x) (fun x y => Below x.heap.size x y) none (by kernel_rfl) ?_ (⟨rfl, rfl, rfl, Nat.le_refl _, fun _ _ => rfl⟩) (fun x y _ h => h) (fun x y hx hs => hx.trans (hs.mono hx.size)) (by kernel_rfl) (by kernel_rfl) ?_ ?_
 ·exact keepsR_n (fun _ _ _ h _ _ => h) (keepsR_n (fun _ _ _ h _ _ => h) (keepsR_n (fun _ _ _ h _ _ => h) (keepsR_n (fun _ _ _ h _ _ => h) (keepsR_n (fun _ _ _ h _ _ => h) (keepsR_n (fun _ _ _ h _ _ => h) (keepsR_n (fun v x y h _ hs => Own.below h hs (Nat.le_refl _)) (keepsR_n (fun _ _ _ h _ _ => h) (keepsR_n (fun _ _ _ h _ _ => h) (keepsR_n (fun _ _ _ h _ _ => h) (keepsR_n (fun _ _ _ h _ _ => h) (keepsR_n (fun _ _ _ h _ _ => h) (keepsR_n (fun _ _ _ h _ _ => h) (keepsR_n (fun v x y h _ hs => Own.below h hs (Nat.le_refl _)) (keepsR_n (fun v x y h _ hs => Own.below h hs (Nat.le_refl _)) (keepsR_nil)))))))))))))))
 ·refine .cons (owed7_go ?_) (.cons (owed7_go ?_) (.cons (owed7_go ?_) (.cons (owed7_go ?_) (.cons (owed7_go ?_) (.cons (owed7_go ?_) (.cons (owed7_go ?_) (.cons (owed7_go ?_) (.cons (owed7_go ?_) (.cons (owed7_go ?_) (.cons (owed7_go ?_) (.cons (owed7_go ?_) (.cons (owed7_go ?_) (.cons (owed7_go ?_) (.cons (owed7_go ?_) (.nil)))))))))))))))
  ·intro a wx hbx hq ho hf
   have hbx : Below w.heap.size w wx := hbx
   have hbq : Below w.heap.size w wx := hq (by kernel_rfl)
   clear hq
   refine ⟨rfl, ?_⟩
   intro K hK
   have e0 : a.tmps[0]?.getD undef = .slice (some ⟨b, off, none⟩) n c := ho 0 (by kernel_rfl)
   go_simp
   exact hK _ _ rfl (stepR_no rfl (Below.refl _ _))
  ·intro a wx hbx hq ho hf
   have hbx : Below w.heap.size w wx := hbx
   have hbq : Below w.heap.size w wx := hq (by kernel_rfl)
   clear hq
   refine ⟨rfl, ?_⟩
   intro K hK
   have e0 : a.tmps[1]?.getD undef = .int .i64 (p : Nat) := ho 1 (by kernel_rfl)
   go_simp
   exact hK _ _ rfl (stepR_no rfl (Below.refl _ _))
  ·intro a wx hbx hq ho hf
   have hbx : Below w.heap.size w wx := hbx
   have hbq : Below w.heap.size w wx := hq (by kernel_rfl)
   clear hq
   refine ⟨rfl, ?_⟩
   intro K hK
   have e0 : a.tmps[16]?.getD undef = .slice (some ⟨b, off, none⟩) n c := hf.1
   have e1 : a.tmps[17]?.getD undef = .int .i64 (p : Nat) := hf.2.1
   go_simp
   exact hK _ _ rfl (stepR_no rfl (Below.refl _ _))
  ·intro a wx hbx hq ho hf
   have hbx : Below w.heap.size w wx := hbx
   have hbq : Below w.heap.size w wx := hq (by kernel_rfl)
   clear hq
   refine ⟨rfl, ?_⟩
   intro K hK
   have e0 : a.tmps[18]?.getD undef = .pointer (some ⟨b, off + p * 10, none⟩) := hf.1
   go_simp
   exact hK _ _ rfl (stepR_no rfl (Below.refl _ _))
  ·intro a wx hbx hq ho hf
   have hbx : Below w.heap.size w wx := hbx
   have hbq : Below w.heap.size w wx := hq (by kernel_rfl)
   clear hq
   refine ⟨rfl, ?_⟩
   intro K hK
   have e0 : a.tmps[19]?.getD undef = .pointer (some ⟨b, off + p * 10 + 7, none⟩) := hf.1
   go_simp
   exact hK _ _ rfl (stepR_no rfl (Below.refl _ _))
  ·intro a wx hbx hq ho hf
   have hbx : Below w.heap.size w wx := hbx
   have hbq : Below w.heap.size w wx := hq (by kernel_rfl)
   clear hq
   refine ⟨rfl, ?_⟩
   intro K hK
   have e0 : a.tmps[20]?.getD undef = .pointer (some ⟨b, off + p * 10 + 7, none⟩) := hf.1
   have d1 := (hbx.cell (p := ⟨b, off + p * 10 + 7, none⟩) hbl).trans c7
   go_simp
   exact hK _ _ rfl (stepR_no rfl (Below.refl _ _))
  ·intro a wx hbx hq ho hf
   have hbx : Below w.heap.size w wx := hbx
   have hbq : Below w.heap.size w wx := hq (by kernel_rfl)
   clear hq
   refine ⟨rfl, ?_⟩
   intro K hK
   have e0 : a.tmps[21]?.getD undef = .slice b1 l6 e1 := hf.1
   go_simp
   refine (HP1.out wx hbx).mono ?_
   rintro e w2 ⟨v9, rfl, hown, hb2⟩
   exact hK _ _ (hown.mono hbx.size) (stepR_no rfl hb2)
  ·intro a wx hbx hq ho hf
   have hbx : Below w.heap.size w wx := hbx
   have hbq : Below w.heap.size w wx := hq (by kernel_rfl)
   clear hq
   refine ⟨rfl, ?_⟩
   intro K hK
   have e0 : a.tmps[0]?.getD undef = .slice (some ⟨b, off, none⟩) n c := ho 0 (by kernel_rfl)
   go_simp
   exact hK _ _ rfl (stepR_no rfl (Below.refl _ _))
  ·intro a wx hbx hq ho hf
   have hbx : Below w.heap.size w wx := hbx
   have hbq : Below w.heap.size w wx := hq (by kernel_rfl)
   clear hq
   refine ⟨rfl, ?_⟩
   intro K hK
   have e0 : a.tmps[1]?.getD undef = .int .i64 (p : Nat) := ho 1 (by kernel_rfl)
   go_simp
   exact hK _ _ rfl (stepR_no rfl (Below.refl _ _))
  ·intro a wx hbx hq ho hf
   have hbx : Below w.heap.size w wx := hbx
   have hbq : Below w.heap.size w wx := hq (by kernel_rfl)
   clear hq
   refine ⟨rfl, ?_⟩
   intro K hK
   have e0 : a.tmps[23]?.getD undef = .slice (some ⟨b, off, none⟩) n c := hf.1
   have e1 : a.tmps[24]?.getD undef = .int .i64 (p : Nat) := hf.2.1
   go_simp
   exact hK _ _ rfl (stepR_no rfl (Below.refl _ _))
  ·intro a wx hbx hq ho hf
   have hbx : Below w.heap.size w wx := hbx
   have hbq : Below w.heap.size w wx := hq (by kernel_rfl)
   clear hq
   refine ⟨rfl, ?_⟩
   intro K hK
   have e0 : a.tmps[25]?.getD undef = .pointer (some ⟨b, off + p * 10, none⟩) := hf.1
   go_simp
   exact hK _ _ rfl (stepR_no rfl (Below.refl _ _))
  ·intro a wx hbx hq ho hf
   have hbx : Below w.heap.size w wx := hbx
   have hbq : Below w.heap.size w wx := hq (by kernel_rfl)
   clear hq
   refine ⟨rfl, ?_⟩
   intro K hK
   have e0 : a.tmps[26]?.getD undef = .pointer (some ⟨b, off + p * 10 + 7, none⟩) := hf.1
   go_simp
   exact hK _ _ rfl (stepR_no rfl (Below.refl _ _))
  ·intro a wx hbx hq ho hf
   have hbx : Below w.heap.size w wx := hbx
   have hbq : Below w.heap.size w wx := hq (by kernel_rfl)
   clear hq
   refine ⟨rfl, ?_⟩
   intro K hK
   have e0 : a.tmps[27]?.getD undef = .pointer (some ⟨b, off + p * 10 + 8, none⟩) := hf.1
   have d1 := (hbx.cell (p := ⟨b, off + p * 10 + 8, none⟩) hbl).trans c8
   go_simp
   exact hK _ _ rfl (stepR_no rfl (Below.refl _ _))
  ·intro a wx hbx hq ho hf
   have hbx : Below w.heap.size w wx := hbx
   have hbq : Below w.heap.size w wx := hq (by kernel_rfl)
   clear hq
   refine ⟨rfl, ?_⟩
   intro K hK
   have o0 : Own wx w.heap.size 5 (a.tmps[22]?.getD undef) (bvs V1) := hf.1
   obtain ⟨v0, hv0⟩ : ∃ v, v = a.tmps[22]?.getD undef := ⟨_, rfl⟩
   rw [← hv0] at o0
   have e0 := hv0.symm
   clear hv0
   have e1 : a.tmps[28]?.getD undef = .slice b2 l7 e2 := hf.2.1
   go_simp
   refine (HP2.out wx hbx v0 o0.rd).mono ?_
   rintro e w2 ⟨v9, rfl, hown, hb2⟩
   exact hK _ _ (hown.mono hbx.size) (stepR_no rfl hb2)
  ·intro a wx hbx hq ho hf
   have hbx : Below w.heap.size w wx := hbx
   have hbq : Below w.heap.size w wx := hq (by kernel_rfl)
   clear hq
   refine ⟨rfl, ?_⟩
   intro K hK
   have o0 : Own wx w.heap.size 5 (a.tmps[29]?.getD undef) (bvs V2) := hf.1
   obtain ⟨v0, hv0⟩ : ∃ v, v = a.tmps[29]?.getD undef := ⟨_, rfl⟩
   rw [← hv0] at o0
   have e0 := hv0.symm
   clear hv0
   go_simp
   exact hK _ _ o0 (stepR_no rfl (Below.refl _ _))
 ·rintro f w9 hb9 hfin
  have hb9 : Below w.heap.size w w9 := hb9
  have S8 : Own w9 w.heap.size 5 (f 8) (bvs V2) := hfin.2.2.2.2.2.2.2.2.2.2.2.2.2.2.1
  clear hfin
  simp only [frameOf, dstsOf, zipF, List.filterMap_cons, List.filterMap_nil, List.contains_cons, List.contains_nil, Nat.reduceBEq, Nat.reduceAdd, Bool.or_false, Bool.or_true, cond_true, cond_false]
  obtain ⟨u8, hu8⟩ : ∃ u, u = f 8 := ⟨_, rfl⟩
  rw [← hu8] at S8 ⊢
  clear hu8
  rename World => wr
  have HB := Lib.hid hb9
  have HT := Lib.hid S8.rd
  obtain ⟨t1, t2, t3, rfl⟩ := slOf S8
  have d9 := (hb9.cell (p := ⟨b, off + p * 10 + 9, none⟩) hbl).trans c9
  have hblr := Nat.lt_of_lt_of_le hbl hb9.size
  have HHD := Lib.hid (fun (W : World) (hw : Below wr.heap.size wr W) => HHD0.out W (HB.out.trans (hw.mono HB.out.size)))
  have HP3 := Lib.hid (fun (W : World) (hw : Below wr.heap.size wr W) (y : Value) (hy : Rd W y (bvs HO)) => HP30.out W (HB.out.trans (hw.mono HB.out.size)) _ y (HT.out.below hw (Nat.le_refl _)) hy)
  clear hb9 S8 c7 c8 c9
  have c9 := d9
  clear d9 hbl
  have hbl := hblr
  clear hblr
  go_wp2_with fail
  refine (HHD.out wr (Below.refl _ _)).mono ?_
  rintro e w4 ⟨v4, rfl, hr4, hb4⟩
  have HP4 := Lib.hid (HP3.out w4 hb4 v4 hr4)
  have HB4 := Lib.hid (HB.out.trans (hb4.mono HB.out.size))
  obtain ⟨q1, q2, q3, rfl⟩ := rdS hr4
  clear hr4 hb4
  go_wp2_with fail
  refine (HP4.out).mono ?_
  rintro e w5 ⟨v5, rfl, hown5, hb5⟩
  have HB5 := Lib.hid (HB4.out.trans (hb5.mono HB4.out.size))
  have HR5 := Lib.hid hown5.rd
  obtain ⟨r1, r2, r3, rfl⟩ := slOf hown5
  clear hown5 hb5
  have HR6 := Lib.hid (show Rd (w5.alloc (.cells #[.slice r1 r2 r3] 25)) (.slice r1 r2 r3) (bvs V3) from (HR5.out).alloc _)
  have HS6 := Lib.hid (HSO.out (w5.alloc (.cells #[.slice r1 r2 r3] 25)) w5.heap.size (.slice r1 r2 r3) (by simp) (cell_new rfl) HR6.out)
  have HB6 := Lib.hid (HB5.out.alloc HB5.out.size (.cells #[.slice r1 r2 r3] 25))
  go_wp2_with fail
  refine (HS6.out).mono ?_
  rintro e w7 ⟨ob, rfl, hrd7, hb7⟩
  have HB7 := Lib.hid (HB6.out.trans (hb7.mono HB6.out.size))
  have HRR := Lib.hid hrd7
  clear hrd7 hb7
  go_wp2_with fail
  go_ret
  exact ⟨_, rfl, HRR.out, HB7.out⟩
set_option maxRecDepth 100000 in
set_option maxHeartbeats 4000000 in
theorem rseen_any (v : Value) (t : List NodeD) (p o : Nat) (w : World) (h : TreeR w v t) (hs : smallT t = true) (hok : TreeOk t) (hr : rightT t = true) (hpn : p < t.length) (hon : o < t.length) :
  Calls Tryz.prog 158 #[v, .int .i64 (p : Nat), .int .i64 (o : Nat)] w fun e w' => ∃ v', e = .returned v' ∧ Own w' w.heap.size 5 v' (bvs (shaF (seenT t p o))) ∧ Below w.heap.size w w' := by
 have RH := fun (W : World) (hw : Below w.heap.size w W) (vp : Value) (hp : Rd W vp (ivs .i64 (nd t p).par.late)) => rhashX_any t hs hok hr o hon v vp (nd t p).par.late W (h.below hw (Nat.le_refl _)) hp
 have hslen := seenT_len hs p o
 have hslt := seenT_lt hs hok p o
 have hV3 : seenT t p o = (vecB (nd t p).par.box ++ vecB (nd t p).par.hash) ++ vecB (hashX (woD t (nd t p).par.late) o) := rfl
 have hxl := hashX_len (woD t (nd t p).par.late) o
 have hlen := smallT_len hs
 have hsm := of_decide_eq_true (smallT_nd hs p)
 have hl6 : (nd t p).par.box.length ≤ 200 := by omega
 have hl7 : (nd t p).par.hash.length ≤ 200 := by omega
 have hl8 : (nd t p).par.late.length ≤ 60 := by omega
 obtain ⟨ta, c, rfl, hc, hc2⟩ := h.sl
 obtain ⟨b, off, cs, rfl, hbl, hnc, hra⟩ := h.node hpn
 obtain ⟨a1, c1, a2, c2, a3, c3, a4, c4, a5, c5, b1, e1, b2, e2, b3, e3, rfl, h1, h2, h3, h4, h5, h6, h7, h8⟩ := hnc
 have c7 := hra 7 _ rfl
 have c8 := hra 8 _ rfl
 have c9 := hra 9 _ rfl
 have v1l := vecB_len (nd t p).par.box (by omega)
 have v2l := vecB_len (nd t p).par.hash (by omega)
 have v3l := vecB32 hxl
 have VE1 := fun (W : World) (hw : Below w.heap.size w W) => rvec_any _ _ W (h6.below hw (Nat.le_refl _)) (by omega)
 have VE2 := fun (W : World) (hw : Below w.heap.size w W) => rvec_any _ _ W (h7.below hw (Nat.le_refl _)) (by omega)
 have VE3 := fun (W : World) (y : Value) (hy : Rd W y (bvs (hashX (woD t (nd t p).par.late) o))) => rvec_any y _ W hy (by omega)
 have RH2 := fun (W : World) (hw : Below w.heap.size w W) => RH W hw _ (h8.below hw (Nat.le_refl _))
 have DG := fun (W : World) (y : Value) (hy : Rd W y (bvs (seenT t p o))) => digest_any y _ W hy hslt (by omega)
 obtain ⟨SH, hSH⟩ : ∃ S, S = shaF (seenT t p o) := ⟨_, rfl⟩
 rw [← hSH] at DG ⊢
 obtain ⟨V1, hV1⟩ : ∃ V, V = vecB (nd t p).par.box := ⟨_, rfl⟩
 obtain ⟨VB, hVB⟩ : ∃ V, V = vecB (nd t p).par.hash := ⟨_, rfl⟩
 obtain ⟨VC, hVC⟩ : ∃ V, V = vecB (hashX (woD t (nd t p).par.late) o) := ⟨_, rfl⟩
 rw [hV3, ← hV1, ← hVB, ← hVC] at DG
 rw [← hV1] at VE1 v1l
 rw [← hVB] at VE2 v2l
 rw [← hVC] at VE3 v3l
 obtain ⟨HO, hHO⟩ : ∃ V, V = hashX (woD t (nd t p).par.late) o := ⟨_, rfl⟩
 rw [← hHO] at VE3 RH2
 obtain ⟨l6, hl6'⟩ : ∃ l, l = (nd t p).par.box.length := ⟨_, rfl⟩
 obtain ⟨l7, hl7'⟩ : ∃ l, l = (nd t p).par.hash.length := ⟨_, rfl⟩
 obtain ⟨l8, hl8'⟩ : ∃ l, l = (nd t p).par.late.length := ⟨_, rfl⟩
 rw [← hl6'] at c7 VE1
 rw [← hl7'] at c8 VE2
 rw [← hl8'] at c9 RH2
 have HR3 := Lib.hid (show w.rangeAt b (off + p * 10 + 7) [.slice b1 l6 e1, .slice b2 l7 e2, .slice b3 l8 e3] from by
  intro j u hu
  match j, hu with
  | 0, hu => simp at hu; subst hu; exact c7
  | 1, hu => simp at hu; subst hu; exact c8
  | 2, hu => simp at hu; subst hu; exact c9
  | j + 3, hu => simp at hu)
 have HL1 := Lib.hid (show V1.length + VB.length < 1000000000 by omega)
 have HL2 := Lib.hid (show (V1 ++ VB).length + VC.length < 1000000000 by rw [List.length_append]; omega)
 obtain ⟨n, hn⟩ : ∃ n, n = t.length := ⟨_, rfl⟩
 rw [← hn] at RH2 hc hpn hlen ⊢
 have hpI : (p : Int) < (n : Int) := by omega
 have HV10 := Lib.hid VE1
 have HV20 := Lib.hid VE2
 have HV3 := Lib.hid VE3
 have HRH0 := Lib.hid RH2
 have HDG := Lib.hid DG
 clear VE1 VE2 VE3 RH RH2 DG hslen hslt hV3 hV1 hVB hVC hHO hSH hl6' hl7' hl8' hxl hsm v1l v2l v3l h1 h2 h3 h4 h5 h6 h7 h8 hra h hs hok hr hon hn hl6 hl7 hl8 c7 c8 c9
 go_enter Tryz.func158, Tryz.ntmps158
 go_wp2_with (refine wpList_load_mid rfl 52 (.tmp 11) rfl b (off + p * 10 + 7) rfl [.slice b1 l6 e1, .slice b2 l7 e2, .slice b3 l8 e3] _ HR3.out Tryz.underlying52 rfl (by kernel_rfl) ?_)
 have HBK := Lib.hid (Blk.new w 52 #[.slice b1 l6 e1, .slice b2 l7 e2, .slice b3 l8 e3])
 have HB := Lib.hid ((Below.refl w.heap.size w).alloc (Nat.le_refl _) (.cells #[.slice b1 l6 e1, .slice b2 l7 e2, .slice b3 l8 e3] 52))
 generalize hwr : w.alloc (.cells #[.slice b1 l6 e1, .slice b2 l7 e2, .slice b3 l8 e3] 52) = wr at HBK HB ⊢
 clear hwr
 have HX0 := Lib.hid (show wr.cell? ⟨w.heap.size, 0, none⟩ = some (.slice b1 l6 e1) by rw [HBK.out.cell]; rfl)
 have HX1 := Lib.hid (show wr.cell? ⟨w.heap.size, 1, none⟩ = some (.slice b2 l7 e2) by rw [HBK.out.cell]; rfl)
 have HX2 := Lib.hid (show wr.cell? ⟨w.heap.size, 2, none⟩ = some (.slice b3 l8 e3) by rw [HBK.out.cell]; rfl)
 have HV1 := Lib.hid (fun (W : World) (hw : Below wr.heap.size wr W) => HV10.out W (HB.out.trans (hw.mono HB.out.size)))
 have HV2 := Lib.hid (fun (W : World) (hw : Below wr.heap.size wr W) => HV20.out W (HB.out.trans (hw.mono HB.out.size)))
 have HRH := Lib.hid (fun (W : World) (hw : Below wr.heap.size wr W) => HRH0.out W (HB.out.trans (hw.mono HB.out.size)))
 go_wp2_with fail
 refine wp_region_rel [fun v _ => v = .pointer (some ⟨w.heap.size, 0, none⟩), fun v _ => v = .slice b1 l6 e1, fun v w' => Own w' wr.heap.size 5 v (bvs V1), fun v _ => v = .pointer (some ⟨w.heap.size, 1, none⟩), fun v _ => v = .slice b2 l7 e2, fun v w' => Own w' wr.heap.size 5 v (bvs VB), fun v w' => Own w' wr.heap.size 5 v (bvs (V1 ++ VB)), fun v _ => v = .slice (some ⟨b, off, none⟩) n c, fun v _ => v = .int .i64 (o : Nat), fun v _ => v = .pointer (some ⟨w.heap.size, 2, none⟩), fun v _ => v = .slice b3 l8 e3, fun v w' => Own w' wr.heap.size 5 v (bvs HO), fun v w' => Own w' wr.heap.size 5 v (bvs VC), fun v w' => Own w' wr.heap.size 5 v (bvs ((V1 ++ VB) ++ VC)), fun v w' => Own w' wr.heap.size 5 v (bvs SH), fun v w' => Own w' wr.heap.size 5 v (bvs SH)]
  [true, true, true, true, true, true, true, true, true, true, true, true, true, true, true, true] (fun x => Below wr.heap.size wr x) (fun x y => Below x.heap.size x y) none (by kernel_rfl) ?_ (⟨rfl, rfl, rfl, Nat.le_refl _, fun _ _ => rfl⟩) (fun x y _ h => h) (fun x y hx hs => hx.trans (hs.mono hx.size)) (by kernel_rfl) (by kernel_rfl) ?_ ?_
 ·exact keepsR_n (fun _ _ _ h _ _ => h) (keepsR_n (fun _ _ _ h _ _ => h) (keepsR_n (fun v x y h _ hs => Own.below h hs (Nat.le_refl _)) (keepsR_n (fun _ _ _ h _ _ => h) (keepsR_n (fun _ _ _ h _ _ => h) (keepsR_n (fun v x y h _ hs => Own.below h hs (Nat.le_refl _)) (keepsR_n (fun v x y h _ hs => Own.below h hs (Nat.le_refl _)) (keepsR_n (fun _ _ _ h _ _ => h) (keepsR_n (fun _ _ _ h _ _ => h) (keepsR_n (fun _ _ _ h _ _ => h) (keepsR_n (fun _ _ _ h _ _ => h) (keepsR_n (fun v x y h _ hs => Own.below h hs (Nat.le_refl _)) (keepsR_n (fun v x y h _ hs => Own.below h hs (Nat.le_refl _)) (keepsR_n (fun v x y h _ hs => Own.below h hs (Nat.le_refl _)) (keepsR_n (fun v x y h _ hs => Own.below h hs (Nat.le_refl _)) (keepsR_n (fun v x y h _ hs => Own.below h hs (Nat.le_refl _)) (keepsR_nil))))))))))))))))
 ·refine .cons (owed7_go ?_) (.cons (owed7_go ?_) (.cons (owed7_go ?_) (.cons (owed7_go ?_) (.cons (owed7_go ?_) (.cons (owed7_go ?_) (.cons (owed7_go ?_) (.cons (owed7_go ?_) (.cons (owed7_go ?_) (.cons (owed7_go ?_) (.cons (owed7_go ?_) (.cons (owed7_go ?_) (.cons (owed7_go ?_) (.cons (owed7_go ?_) (.cons (owed7_go ?_) (.cons (owed7_go ?_) (.nil))))))))))))))))
  ·intro a wx hbx hq ho hf
   have hbx : Below wr.heap.size wr wx := hbx
   have hbq : Below wr.heap.size wr wx := hq (by kernel_rfl)
   clear hq
   refine ⟨rfl, ?_⟩
   intro K hK
   have e0 : a.tmps[7]?.getD undef = .pointer (some ⟨w.heap.size, 0, none⟩) := ho 7 (by kernel_rfl)
   go_simp
   exact hK _ _ rfl (stepR_no rfl (Below.refl _ _))
  ·intro a wx hbx hq ho hf
   have hbx : Below wr.heap.size wr wx := hbx
   have hbq : Below wr.heap.size wr wx := hq (by kernel_rfl)
   clear hq
   refine ⟨rfl, ?_⟩
   intro K hK
   have e0 : a.tmps[13]?.getD undef = .pointer (some ⟨w.heap.size, 0, none⟩) := hf.1
   have d1 := (hbx.cell (p := ⟨w.heap.size, 0, none⟩) HBK.out.lt).trans (HX0.out)
   go_simp
   exact hK _ _ rfl (stepR_no rfl (Below.refl _ _))
  ·intro a wx hbx hq ho hf
   have hbx : Below wr.heap.size wr wx := hbx
   have hbq : Below wr.heap.size wr wx := hq (by kernel_rfl)
   clear hq
   refine ⟨rfl, ?_⟩
   intro K hK
   have e0 : a.tmps[14]?.getD undef = .slice b1 l6 e1 := hf.1
   go_simp
   refine (HV1.out wx hbx).mono ?_
   rintro e w2 ⟨v9, rfl, hown, hb2⟩
   exact hK _ _ (hown.mono hbx.size) (stepR_no rfl hb2)
  ·intro a wx hbx hq ho hf
   have hbx : Below wr.heap.size wr wx := hbx
   have hbq : Below wr.heap.size wr wx := hq (by kernel_rfl)
   clear hq
   refine ⟨rfl, ?_⟩
   intro K hK
   have e0 : a.tmps[7]?.getD undef = .pointer (some ⟨w.heap.size, 0, none⟩) := ho 7 (by kernel_rfl)
   go_simp
   exact hK _ _ rfl (stepR_no rfl (Below.refl _ _))
  ·intro a wx hbx hq ho hf
   have hbx : Below wr.heap.size wr wx := hbx
   have hbq : Below wr.heap.size wr wx := hq (by kernel_rfl)
   clear hq
   refine ⟨rfl, ?_⟩
   intro K hK
   have e0 : a.tmps[16]?.getD undef = .pointer (some ⟨w.heap.size, 1, none⟩) := hf.1
   have d1 := (hbx.cell (p := ⟨w.heap.size, 1, none⟩) HBK.out.lt).trans (HX1.out)
   go_simp
   exact hK _ _ rfl (stepR_no rfl (Below.refl _ _))
  ·intro a wx hbx hq ho hf
   have hbx : Below wr.heap.size wr wx := hbx
   have hbq : Below wr.heap.size wr wx := hq (by kernel_rfl)
   clear hq
   refine ⟨rfl, ?_⟩
   intro K hK
   have e0 : a.tmps[17]?.getD undef = .slice b2 l7 e2 := hf.1
   go_simp
   refine (HV2.out wx hbx).mono ?_
   rintro e w2 ⟨v9, rfl, hown, hb2⟩
   exact hK _ _ (hown.mono hbx.size) (stepR_no rfl hb2)
  ·intro a wx hbx hq ho hf
   have hbx : Below wr.heap.size wr wx := hbx
   have hbq : Below wr.heap.size wr wx := hq (by kernel_rfl)
   clear hq
   refine ⟨rfl, ?_⟩
   intro K hK
   have o0 : Own wx wr.heap.size 5 (a.tmps[15]?.getD undef) (bvs V1) := hf.1
   obtain ⟨v0, hv0⟩ : ∃ v, v = a.tmps[15]?.getD undef := ⟨_, rfl⟩
   rw [← hv0] at o0
   have e0 := hv0.symm
   clear hv0
   have o1 : Own wx wr.heap.size 5 (a.tmps[18]?.getD undef) (bvs VB) := hf.2.1
   obtain ⟨v1, hv1⟩ : ∃ v, v = a.tmps[18]?.getD undef := ⟨_, rfl⟩
   rw [← hv1] at o1
   have e1 := hv1.symm
   clear hv1
   go_simp
   refine (join18_any v0 v1 V1 VB wx o0.rd o1.rd HL1.out).mono ?_
   rintro e w2 ⟨v9, rfl, hown, hb2⟩
   exact hK _ _ (hown.mono hbx.size) (stepR_no rfl hb2)
  ·intro a wx hbx hq ho hf
   have hbx : Below wr.heap.size wr wx := hbx
   have hbq : Below wr.heap.size wr wx := hq (by kernel_rfl)
   clear hq
   refine ⟨rfl, ?_⟩
   intro K hK
   have e0 : a.tmps[0]?.getD undef = .slice (some ⟨b, off, none⟩) n c := ho 0 (by kernel_rfl)
   go_simp
   exact hK _ _ rfl (stepR_no rfl (Below.refl _ _))
  ·intro a wx hbx hq ho hf
   have hbx : Below wr.heap.size wr wx := hbx
   have hbq : Below wr.heap.size wr wx := hq (by kernel_rfl)
   clear hq
   refine ⟨rfl, ?_⟩
   intro K hK
   have e0 : a.tmps[2]?.getD undef = .int .i64 (o : Nat) := ho 2 (by kernel_rfl)
   go_simp
   exact hK _ _ rfl (stepR_no rfl (Below.refl _ _))
  ·intro a wx hbx hq ho hf
   have hbx : Below wr.heap.size wr wx := hbx
   have hbq : Below wr.heap.size wr wx := hq (by kernel_rfl)
   clear hq
   refine ⟨rfl, ?_⟩
   intro K hK
   have e0 : a.tmps[7]?.getD undef = .pointer (some ⟨w.heap.size, 0, none⟩) := ho 7 (by kernel_rfl)
   go_simp
   exact hK _ _ rfl (stepR_no rfl (Below.refl _ _))
  ·intro a wx hbx hq ho hf
   have hbx : Below wr.heap.size wr wx := hbx
   have hbq : Below wr.heap.size wr wx := hq (by kernel_rfl)
   clear hq
   refine ⟨rfl, ?_⟩
   intro K hK
   have e0 : a.tmps[22]?.getD undef = .pointer (some ⟨w.heap.size, 2, none⟩) := hf.1
   have d1 := (hbx.cell (p := ⟨w.heap.size, 2, none⟩) HBK.out.lt).trans (HX2.out)
   go_simp
   exact hK _ _ rfl (stepR_no rfl (Below.refl _ _))
  ·intro a wx hbx hq ho hf
   have hbx : Below wr.heap.size wr wx := hbx
   have hbq : Below wr.heap.size wr wx := hq (by kernel_rfl)
   clear hq
   refine ⟨rfl, ?_⟩
   intro K hK
   have e0 : a.tmps[20]?.getD undef = .slice (some ⟨b, off, none⟩) n c := hf.1
   have e1 : a.tmps[21]?.getD undef = .int .i64 (o : Nat) := hf.2.1
   have e2 : a.tmps[23]?.getD undef = .slice b3 l8 e3 := hf.2.2.1
   go_simp
   refine (HRH.out wx hbx).mono ?_
   rintro e w2 ⟨v9, rfl, hown, hb2⟩
   exact hK _ _ (hown.mono hbx.size) (stepR_no rfl hb2)
  ·intro a wx hbx hq ho hf
   have hbx : Below wr.heap.size wr wx := hbx
   have hbq : Below wr.heap.size wr wx := hq (by kernel_rfl)
   clear hq
   refine ⟨rfl, ?_⟩
   intro K hK
   have o0 : Own wx wr.heap.size 5 (a.tmps[24]?.getD undef) (bvs HO) := hf.1
   obtain ⟨v0, hv0⟩ : ∃ v, v = a.tmps[24]?.getD undef := ⟨_, rfl⟩
   rw [← hv0] at o0
   have e0 := hv0.symm
   clear hv0
   go_simp
   refine (HV3.out wx v0 o0.rd).mono ?_
   rintro e w2 ⟨v9, rfl, hown, hb2⟩
   exact hK _ _ (hown.mono hbx.size) (stepR_no rfl hb2)
  ·intro a wx hbx hq ho hf
   have hbx : Below wr.heap.size wr wx := hbx
   have hbq : Below wr.heap.size wr wx := hq (by kernel_rfl)
   clear hq
   refine ⟨rfl, ?_⟩
   intro K hK
   have o0 : Own wx wr.heap.size 5 (a.tmps[19]?.getD undef) (bvs (V1 ++ VB)) := hf.1
   obtain ⟨v0, hv0⟩ : ∃ v, v = a.tmps[19]?.getD undef := ⟨_, rfl⟩
   rw [← hv0] at o0
   have e0 := hv0.symm
   clear hv0
   have o1 : Own wx wr.heap.size 5 (a.tmps[25]?.getD undef) (bvs VC) := hf.2.1
   obtain ⟨v1, hv1⟩ : ∃ v, v = a.tmps[25]?.getD undef := ⟨_, rfl⟩
   rw [← hv1] at o1
   have e1 := hv1.symm
   clear hv1
   go_simp
   refine (join18_any v0 v1 (V1 ++ VB) VC wx o0.rd o1.rd HL2.out).mono ?_
   rintro e w2 ⟨v9, rfl, hown, hb2⟩
   exact hK _ _ (hown.mono hbx.size) (stepR_no rfl hb2)
  ·intro a wx hbx hq ho hf
   have hbx : Below wr.heap.size wr wx := hbx
   have hbq : Below wr.heap.size wr wx := hq (by kernel_rfl)
   clear hq
   refine ⟨rfl, ?_⟩
   intro K hK
   have o0 : Own wx wr.heap.size 5 (a.tmps[26]?.getD undef) (bvs ((V1 ++ VB) ++ VC)) := hf.1
   obtain ⟨v0, hv0⟩ : ∃ v, v = a.tmps[26]?.getD undef := ⟨_, rfl⟩
   rw [← hv0] at o0
   have e0 := hv0.symm
   clear hv0
   go_simp
   refine (HDG.out wx v0 o0.rd).mono ?_
   rintro e w2 ⟨v9, rfl, hown, hb2⟩
   exact hK _ _ (hown.mono hbx.size) (stepR_no rfl hb2)
  ·intro a wx hbx hq ho hf
   have hbx : Below wr.heap.size wr wx := hbx
   have hbq : Below wr.heap.size wr wx := hq (by kernel_rfl)
   clear hq
   refine ⟨rfl, ?_⟩
   intro K hK
   have o0 : Own wx wr.heap.size 5 (a.tmps[27]?.getD undef) (bvs SH) := hf.1
   obtain ⟨v0, hv0⟩ : ∃ v, v = a.tmps[27]?.getD undef := ⟨_, rfl⟩
   rw [← hv0] at o0
   have e0 := hv0.symm
   clear hv0
   go_simp
   exact hK _ _ o0 (stepR_no rfl (Below.refl _ _))
 ·rintro f w9 hb9 hfin
  have hb9 : Below wr.heap.size wr w9 := hb9
  have S6 : Own w9 wr.heap.size 5 (f 6) (bvs SH) := hfin.2.2.2.2.2.2.2.2.2.2.2.2.2.2.2.1
  clear hfin
  simp only [frameOf, dstsOf, zipF, List.filterMap_cons, List.filterMap_nil, List.contains_cons, List.contains_nil, Nat.reduceBEq, Nat.reduceAdd, Bool.or_false, Bool.or_true, cond_true, cond_false]
  obtain ⟨u6, hu6⟩ : ∃ u, u = f 6 := ⟨_, rfl⟩
  rw [← hu6] at S6 ⊢
  clear hu6
  have HB9 := HB.out.trans (hb9.mono HB.out.size)
  have HO6 := S6.mono HB.out.size
  go_wp2_with fail
  go_ret
  exact ⟨_, rfl, HO6, HB9⟩
end Go.Proofs.YtngealmhgkoaiaaGreat
