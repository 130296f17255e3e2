/- Walks: hash.seen, the reference's Seen. -/
import Derived.Test.YtohldijomcljkaaGreatZHashSeen36
import Derived.Test.YtohldijomcljkaaGreatZHashSeen42
namespace Go.Proofs.YtohldijomcljkaaGreat
open Go.RowKit WalkM ShaM WireM
set_option linter.unusedVariables false
theorem wrap_in {a : Int} (h : -9223372036854775808 ≤ a ∧ a ≤ 9223372036854775807) : wrap64 a = a := by unfold wrap64; omega
theorem w64_add {l r s : Nat} (h : s = l + r) (hs : s ≤ 1000) : wrap64 ((l : Int) + (r : Int)) = (s : Int) := by
  subst h
  rw [wrap_in ⟨by omega, by omega⟩, Int.natCast_add]
theorem w64_sub {s c o : Nat} (h : s = c + o) (ho : o ≤ 1000) : wrap64 ((s : Int) - (c : Int)) = (o : Int) := by
  have e : (s : Int) - (c : Int) = (o : Int) := by subst h; omega
  rw [e, wrap_in ⟨by omega, by omega⟩]
/-- what is digested of a parent, seen from a child; the other child is told -/
def seenT (t : List NodeD) (p o : Nat) : List Nat := (vecB (nd t p).par.box ++ vecB (nd t p).par.hash) ++ vecB (hashX (woD t (nd t p).par.late) o)
theorem seenT_len {t : List NodeD} (hs : smallT t = true) (p o : Nat) : (seenT t p o).length ≤ 1000 := by
  have hsm := of_decide_eq_true (smallT_nd hs p)
  have h1 := vecB_len (nd t p).par.box (by omega)
  have h2 := vecB_len (nd t p).par.hash (by omega)
  have h3 := vecB32 (hashX_len (woD t (nd t p).par.late) o)
  unfold seenT
  rw [List.length_append, List.length_append]; omega
theorem seenT_lt {t : List NodeD} (hs : smallT t = true) (hok : TreeOk t) (p o : Nat) : ∀ y ∈ seenT t p o, y < 256 := by
  have hsm := of_decide_eq_true (smallT_nd hs p)
  have hk := hok.nd p
  intro y hy
  unfold seenT at hy
  simp only [List.mem_append] at hy
  rcases hy with (hy | hy) | hy
  · exact vecB_lt (by omega) hk.pbox y hy
  · exact vecB_lt (by omega) hk.hash y hy
  · exact vecB_lt (by rw [hashX_len]; omega) (hashX_lt _ _) y hy
set_option maxRecDepth 100000 in
set_option maxHeartbeats 4000000 in
theorem seen_any (v : Value) (t : List NodeD) (p l r c0 o : Nat) (w : World) (h : TreeR w v t) (hs : smallT t = true) (hok : TreeOk t) (hr : rightT t = true) (hpn : p < t.length) (hon : o < t.length) (hl : leftZ (p : Int) = (l : Int)) (hrr : rightZ (p : Int) = (r : Int)) (hsum : l + r = c0 + o) (hsz : l + r ≤ 1000) :
    Calls Tryz.prog 25 #[v, .int .i64 (p : Nat), .int .i64 (c0 : Nat)] w fun e w' => ∃ v', e = .returned v' ∧ Rd w' v' (bvs (shaF (seenT t p o))) ∧ Below w.heap.size w w' := by
  have HDG := fun (W : World) (hw : Below w.heap.size w W) (vp : Value) (hp : Rd W vp (ivs .i64 (nd t p).par.late)) => hashed_any v vp t (nd t p).par.late o W (h.below hw (Nat.le_refl _)) hp hs hok hr (by have := of_decide_eq_true (smallT_nd hs p); omega) hon
  have LF := fun (W : World) => wleft_any (p : Int) W
  have RT := fun (W : World) => wright_any (p : Int) W
  rw [hl] at LF
  rw [hrr] at RT
  have hslen := seenT_len hs p o
  have hslt := seenT_lt hs hok p o
  have hV3 : seenT t p o = (([] ++ vecB (nd t p).par.box) ++ vecB (nd t p).par.hash) ++ vecB (hashX (woD t (nd t p).par.late) o) := by rw [List.nil_append]; rfl
  have hxl := hashX_len (woD t (nd t p).par.late) o
  have hlen := smallT_len hs
  have hsm := of_decide_eq_true (smallT_nd hs p)
  have hl6 : (nd t p).par.box.length ≤ 200 := by omega
  have hl7 : (nd t p).par.hash.length ≤ 200 := by omega
  have hl8 : (nd t p).par.late.length ≤ 60 := by omega
  obtain ⟨ta, c, rfl, hc, hc2⟩ := h.sl
  obtain ⟨b, off, cs, rfl, hbl, hnc, hra⟩ := h.node hpn
  obtain ⟨a1, c1, a2, c2, a3, c3, a4, c4, a5, c5, b1, e1, b2, e2, b3, e3, rfl, h1, h2, h3, h4, h5, h6, h7, h8⟩ := hnc
  have c7 := hra 7 _ rfl
  have c8 := hra 8 _ rfl
  have c9 := hra 9 _ rfl
  have v1l := vecB_len (nd t p).par.box (by omega)
  have v2l := vecB_len (nd t p).par.hash (by omega)
  have P1 := fun (W : World) (hw : Below w.heap.size w W) => putVec_any (.slice none 0 0) _ [] _ W (Own.nil W 0 5).rd (h6.below hw (Nat.le_refl _)) (by simp) (by omega)
  have P2 := fun (W : World) (hw : Below w.heap.size w W) (x : Value) (hx : Rd W x (bvs ([] ++ vecB (nd t p).par.box))) => putVec_any x _ _ _ W hx (h7.below hw (Nat.le_refl _)) (by rw [List.nil_append]; omega) (by omega)
  have P3 := fun (W : World) (hw : Below w.heap.size w W) (x y : Value) (hx : Rd W x (bvs (([] ++ vecB (nd t p).par.box) ++ vecB (nd t p).par.hash))) (hy : Rd W y (bvs (hashX (woD t (nd t p).par.late) o))) => putVec_any x y _ _ W hx hy (by rw [List.nil_append, List.length_append]; omega) (by omega)
  have HD := fun (W : World) (hw : Below w.heap.size w W) => HDG W hw _ (h8.below hw (Nat.le_refl _))
  rw [← hV3] at P3
  obtain ⟨V1, hV1⟩ : ∃ V, V = [] ++ vecB (nd t p).par.box := ⟨_, rfl⟩
  rw [← hV1] at P1 P2 P3
  obtain ⟨V2, hV2⟩ : ∃ V, V = V1 ++ vecB (nd t p).par.hash := ⟨_, rfl⟩
  rw [← hV2] at P2 P3
  obtain ⟨HO, hHO⟩ : ∃ V, V = hashX (woD t (nd t p).par.late) o := ⟨_, rfl⟩
  rw [← hHO] at P3 HD
  obtain ⟨V3, hV3'⟩ : ∃ V, V = seenT t p o := ⟨_, rfl⟩
  rw [← hV3'] at P3 hslen hslt ⊢
  have SO := fun (W : World) (g : Nat) (u : Value) (hg : g < W.heap.size) (hc : W.cell? ⟨g, 0, none⟩ = some u) (hu : Rd W u (bvs V3)) => (shaof_any g u V3 W hc hg hu hslt (by omega)).mono (fun e w' (he : ∃ b, e = .returned (.slice (some ⟨b, 0, none⟩) 32 32) ∧ W.heap.size ≤ b ∧ b < w'.heap.size ∧ Rd w' (.slice (some ⟨b, 0, none⟩) 32 32) (bvs (shaF V3)) ∧ Below W.heap.size W w') => (show ∃ b, e = .returned (.slice (some ⟨b, 0, none⟩) 32 32) ∧ Rd w' (.slice (some ⟨b, 0, none⟩) 32 32) (bvs (shaF V3)) ∧ Below W.heap.size W w' from by
    obtain ⟨b, e1, _, _, e2, e3⟩ := he
    exact ⟨b, e1, e2, e3⟩))
  obtain ⟨SH, hSH⟩ : ∃ S, S = shaF V3 := ⟨_, rfl⟩
  rw [← hSH] at SO ⊢
  obtain ⟨l6, hl6'⟩ : ∃ l, l = (nd t p).par.box.length := ⟨_, rfl⟩
  obtain ⟨l7, hl7'⟩ : ∃ l, l = (nd t p).par.hash.length := ⟨_, rfl⟩
  obtain ⟨l8, hl8'⟩ : ∃ l, l = (nd t p).par.late.length := ⟨_, rfl⟩
  rw [← hl6'] at c7 P1
  rw [← hl7'] at c8 P2
  rw [← hl8'] at c9 HD
  obtain ⟨n, hn⟩ : ∃ n, n = t.length := ⟨_, rfl⟩
  rw [← hn] at HD hc hpn hlen ⊢
  have hpI : (p : Int) < (n : Int) := by omega
  obtain ⟨s, hs0⟩ : ∃ s : Nat, s = l + r := ⟨_, rfl⟩
  have ho2 : o ≤ 1000 := by clear hs0; omega
  have hs2 : s ≤ 1000 := by omega
  have hw1 : wrap64 ((l : Int) + (r : Int)) = (s : Int) := w64_add hs0 hs2
  have hw2 : wrap64 ((s : Int) - (c0 : Int)) = (o : Int) := w64_sub (by rw [hs0]; exact hsum) ho2
  have HLF := Lib.hid LF
  have HRT := Lib.hid RT
  have HP1 := Lib.hid P1
  have HP2 := Lib.hid P2
  have HP30 := Lib.hid P3
  have HHD0 := Lib.hid HD
  have HSO := Lib.hid SO
  clear LF RT P1 P2 P3 HD SO HDG ho2 hs2 hs0 hsum hsz hl hrr hslen hslt hV3 hV3' hV1 hV2 hHO hSH hl6' hl7' hl8' hxl hsm v1l v2l h1 h2 h3 h4 h5 h6 h7 h8 hra h hs hok hr hon hn hl6 hl7 hl8
  go_enter Tryz.func25, Tryz.ntmps25
  go_wp2_with fail
  refine (HLF.out _).mono ?_
  rintro e w' ⟨rfl, rfl⟩
  go_wp2_with fail
  refine (HRT.out _).mono ?_
  rintro e w' ⟨rfl, rfl⟩
  go_wp2_with fail
  refine wp_region_rel [fun v _ => v = .slice (some ⟨b, off, none⟩) n c, fun v _ => v = .int .i64 (p : Nat), fun v _ => v = .pointer (some ⟨b, off + p * 10, none⟩), fun v _ => v = .pointer (some ⟨b, off + p * 10 + 7, none⟩), fun v _ => v = .pointer (some ⟨b, off + p * 10 + 7, none⟩), fun v _ => v = .slice b1 l6 e1, fun v w' => Own w' w.heap.size 5 v (bvs V1), fun v _ => v = .slice (some ⟨b, off, none⟩) n c, fun v _ => v = .int .i64 (p : Nat), fun v _ => v = .pointer (some ⟨b, off + p * 10, none⟩), fun v _ => v = .pointer (some ⟨b, off + p * 10 + 7, none⟩), fun v _ => v = .pointer (some ⟨b, off + p * 10 + 8, none⟩), fun v _ => v = .slice b2 l7 e2, fun v w' => Own w' w.heap.size 5 v (bvs V2), fun v w' => Own w' w.heap.size 5 v (bvs V2)]
    [true, true, true, true, true, true, true, true, true, true, true, true, true, true, true] (fun x => Below w.heap.size w x) (fun x y => Below x.heap.size x y) none (by kernel_rfl) ?_ (⟨rfl, rfl, rfl, Nat.le_refl _, fun _ _ => rfl⟩) (fun x y _ h => h) (fun x y hx hs => hx.trans (hs.mono hx.size)) (by kernel_rfl) (by kernel_rfl) ?_ ?_
  · exact keepsR_n (fun _ _ _ h _ _ => h) (keepsR_n (fun _ _ _ h _ _ => h) (keepsR_n (fun _ _ _ h _ _ => h) (keepsR_n (fun _ _ _ h _ _ => h) (keepsR_n (fun _ _ _ h _ _ => h) (keepsR_n (fun _ _ _ h _ _ => h) (keepsR_n (fun v x y h _ hs => Own.below h hs (Nat.le_refl _)) (keepsR_n (fun _ _ _ h _ _ => h) (keepsR_n (fun _ _ _ h _ _ => h) (keepsR_n (fun _ _ _ h _ _ => h) (keepsR_n (fun _ _ _ h _ _ => h) (keepsR_n (fun _ _ _ h _ _ => h) (keepsR_n (fun _ _ _ h _ _ => h) (keepsR_n (fun v x y h _ hs => Own.below h hs (Nat.le_refl _)) (keepsR_n (fun v x y h _ hs => Own.below h hs (Nat.le_refl _)) (keepsR_nil)))))))))))))))
  · refine .cons (owed7_go ?_) (.cons (owed7_go ?_) (.cons (owed7_go ?_) (.cons (owed7_go ?_) (.cons (owed7_go ?_) (.cons (owed7_go ?_) (.cons (owed7_go ?_) (.cons (owed7_go ?_) (.cons (owed7_go ?_) (.cons (owed7_go ?_) (.cons (owed7_go ?_) (.cons (owed7_go ?_) (.cons (owed7_go ?_) (.cons (owed7_go ?_) (.cons (owed7_go ?_) (.nil)))))))))))))))
    · intro a wx hbx hq ho hf
      have hbx : Below w.heap.size w wx := hbx
      have hbq : Below w.heap.size w wx := hq (by kernel_rfl)
      clear hq
      refine ⟨rfl, ?_⟩
      intro K hK
      have e0 : a.tmps[0]?.getD undef = .slice (some ⟨b, off, none⟩) n c := ho 0 (by kernel_rfl)
      go_simp
      exact hK _ _ rfl (stepR_no rfl (Below.refl _ _))
    · intro a wx hbx hq ho hf
      have hbx : Below w.heap.size w wx := hbx
      have hbq : Below w.heap.size w wx := hq (by kernel_rfl)
      clear hq
      refine ⟨rfl, ?_⟩
      intro K hK
      have e0 : a.tmps[1]?.getD undef = .int .i64 (p : Nat) := ho 1 (by kernel_rfl)
      go_simp
      exact hK _ _ rfl (stepR_no rfl (Below.refl _ _))
    · intro a wx hbx hq ho hf
      have hbx : Below w.heap.size w wx := hbx
      have hbq : Below w.heap.size w wx := hq (by kernel_rfl)
      clear hq
      refine ⟨rfl, ?_⟩
      intro K hK
      have e0 : a.tmps[16]?.getD undef = .slice (some ⟨b, off, none⟩) n c := hf.1
      have e1 : a.tmps[17]?.getD undef = .int .i64 (p : Nat) := hf.2.1
      go_simp
      exact hK _ _ rfl (stepR_no rfl (Below.refl _ _))
    · intro a wx hbx hq ho hf
      have hbx : Below w.heap.size w wx := hbx
      have hbq : Below w.heap.size w wx := hq (by kernel_rfl)
      clear hq
      refine ⟨rfl, ?_⟩
      intro K hK
      have e0 : a.tmps[18]?.getD undef = .pointer (some ⟨b, off + p * 10, none⟩) := hf.1
      go_simp
      exact hK _ _ rfl (stepR_no rfl (Below.refl _ _))
    · intro a wx hbx hq ho hf
      have hbx : Below w.heap.size w wx := hbx
      have hbq : Below w.heap.size w wx := hq (by kernel_rfl)
      clear hq
      refine ⟨rfl, ?_⟩
      intro K hK
      have e0 : a.tmps[19]?.getD undef = .pointer (some ⟨b, off + p * 10 + 7, none⟩) := hf.1
      go_simp
      exact hK _ _ rfl (stepR_no rfl (Below.refl _ _))
    · intro a wx hbx hq ho hf
      have hbx : Below w.heap.size w wx := hbx
      have hbq : Below w.heap.size w wx := hq (by kernel_rfl)
      clear hq
      refine ⟨rfl, ?_⟩
      intro K hK
      have e0 : a.tmps[20]?.getD undef = .pointer (some ⟨b, off + p * 10 + 7, none⟩) := hf.1
      have d1 := (hbx.cell (p := ⟨b, off + p * 10 + 7, none⟩) hbl).trans c7
      go_simp
      exact hK _ _ rfl (stepR_no rfl (Below.refl _ _))
    · intro a wx hbx hq ho hf
      have hbx : Below w.heap.size w wx := hbx
      have hbq : Below w.heap.size w wx := hq (by kernel_rfl)
      clear hq
      refine ⟨rfl, ?_⟩
      intro K hK
      have e0 : a.tmps[21]?.getD undef = .slice b1 l6 e1 := hf.1
      go_simp
      refine (HP1.out wx hbx).mono ?_
      rintro e w2 ⟨v9, rfl, hown, hb2⟩
      exact hK _ _ (hown.mono hbx.size) (stepR_no rfl hb2)
    · intro a wx hbx hq ho hf
      have hbx : Below w.heap.size w wx := hbx
      have hbq : Below w.heap.size w wx := hq (by kernel_rfl)
      clear hq
      refine ⟨rfl, ?_⟩
      intro K hK
      have e0 : a.tmps[0]?.getD undef = .slice (some ⟨b, off, none⟩) n c := ho 0 (by kernel_rfl)
      go_simp
      exact hK _ _ rfl (stepR_no rfl (Below.refl _ _))
    · intro a wx hbx hq ho hf
      have hbx : Below w.heap.size w wx := hbx
      have hbq : Below w.heap.size w wx := hq (by kernel_rfl)
      clear hq
      refine ⟨rfl, ?_⟩
      intro K hK
      have e0 : a.tmps[1]?.getD undef = .int .i64 (p : Nat) := ho 1 (by kernel_rfl)
      go_simp
      exact hK _ _ rfl (stepR_no rfl (Below.refl _ _))
    · intro a wx hbx hq ho hf
      have hbx : Below w.heap.size w wx := hbx
      have hbq : Below w.heap.size w wx := hq (by kernel_rfl)
      clear hq
      refine ⟨rfl, ?_⟩
      intro K hK
      have e0 : a.tmps[23]?.getD undef = .slice (some ⟨b, off, none⟩) n c := hf.1
      have e1 : a.tmps[24]?.getD undef = .int .i64 (p : Nat) := hf.2.1
      go_simp
      exact hK _ _ rfl (stepR_no rfl (Below.refl _ _))
    · intro a wx hbx hq ho hf
      have hbx : Below w.heap.size w wx := hbx
      have hbq : Below w.heap.size w wx := hq (by kernel_rfl)
      clear hq
      refine ⟨rfl, ?_⟩
      intro K hK
      have e0 : a.tmps[25]?.getD undef = .pointer (some ⟨b, off + p * 10, none⟩) := hf.1
      go_simp
      exact hK _ _ rfl (stepR_no rfl (Below.refl _ _))
    · intro a wx hbx hq ho hf
      have hbx : Below w.heap.size w wx := hbx
      have hbq : Below w.heap.size w wx := hq (by kernel_rfl)
      clear hq
      refine ⟨rfl, ?_⟩
      intro K hK
      have e0 : a.tmps[26]?.getD undef = .pointer (some ⟨b, off + p * 10 + 7, none⟩) := hf.1
      go_simp
      exact hK _ _ rfl (stepR_no rfl (Below.refl _ _))
    · intro a wx hbx hq ho hf
      have hbx : Below w.heap.size w wx := hbx
      have hbq : Below w.heap.size w wx := hq (by kernel_rfl)
      clear hq
      refine ⟨rfl, ?_⟩
      intro K hK
      have e0 : a.tmps[27]?.getD undef = .pointer (some ⟨b, off + p * 10 + 8, none⟩) := hf.1
      have d1 := (hbx.cell (p := ⟨b, off + p * 10 + 8, none⟩) hbl).trans c8
      go_simp
      exact hK _ _ rfl (stepR_no rfl (Below.refl _ _))
    · intro a wx hbx hq ho hf
      have hbx : Below w.heap.size w wx := hbx
      have hbq : Below w.heap.size w wx := hq (by kernel_rfl)
      clear hq
      refine ⟨rfl, ?_⟩
      intro K hK
      have o0 : Own wx w.heap.size 5 (a.tmps[22]?.getD undef) (bvs V1) := hf.1
      obtain ⟨v0, hv0⟩ : ∃ v, v = a.tmps[22]?.getD undef := ⟨_, rfl⟩
      rw [← hv0] at o0
      have e0 := hv0.symm
      clear hv0
      have e1 : a.tmps[28]?.getD undef = .slice b2 l7 e2 := hf.2.1
      go_simp
      refine (HP2.out wx hbx v0 o0.rd).mono ?_
      rintro e w2 ⟨v9, rfl, hown, hb2⟩
      exact hK _ _ (hown.mono hbx.size) (stepR_no rfl hb2)
    · intro a wx hbx hq ho hf
      have hbx : Below w.heap.size w wx := hbx
      have hbq : Below w.heap.size w wx := hq (by kernel_rfl)
      clear hq
      refine ⟨rfl, ?_⟩
      intro K hK
      have o0 : Own wx w.heap.size 5 (a.tmps[29]?.getD undef) (bvs V2) := hf.1
      obtain ⟨v0, hv0⟩ : ∃ v, v = a.tmps[29]?.getD undef := ⟨_, rfl⟩
      rw [← hv0] at o0
      have e0 := hv0.symm
      clear hv0
      go_simp
      exact hK _ _ o0 (stepR_no rfl (Below.refl _ _))
  · rintro f w9 hb9 hfin
    have hb9 : Below w.heap.size w w9 := hb9
    have S8 : Own w9 w.heap.size 5 (f 8) (bvs V2) := hfin.2.2.2.2.2.2.2.2.2.2.2.2.2.2.1
    clear hfin
    simp only [frameOf, dstsOf, zipF, List.filterMap_cons, List.filterMap_nil, List.contains_cons, List.contains_nil, Nat.reduceBEq, Nat.reduceAdd, Bool.or_false, Bool.or_true, cond_true, cond_false]
    obtain ⟨u8, hu8⟩ : ∃ u, u = f 8 := ⟨_, rfl⟩
    rw [← hu8] at S8 ⊢
    clear hu8
    rename World => wr
    have HB := Lib.hid hb9
    have HT := Lib.hid S8.rd
    obtain ⟨t1, t2, t3, rfl⟩ := slOf S8
    have d9 := (hb9.cell (p := ⟨b, off + p * 10 + 9, none⟩) hbl).trans c9
    have hblr := Nat.lt_of_lt_of_le hbl hb9.size
    have HHD := Lib.hid (fun (W : World) (hw : Below wr.heap.size wr W) => HHD0.out W (HB.out.trans (hw.mono HB.out.size)))
    have HP3 := Lib.hid (fun (W : World) (hw : Below wr.heap.size wr W) (y : Value) (hy : Rd W y (bvs HO)) => HP30.out W (HB.out.trans (hw.mono HB.out.size)) _ y (HT.out.below hw (Nat.le_refl _)) hy)
    clear hb9 S8 c7 c8 c9
    have c9 := d9
    clear d9 hbl
    have hbl := hblr
    clear hblr
    go_wp2_with fail
    refine (HHD.out wr (Below.refl _ _)).mono ?_
    rintro e w4 ⟨v4, rfl, hr4, hb4⟩
    have HP4 := Lib.hid (HP3.out w4 hb4 v4 hr4)
    have HB4 := Lib.hid (HB.out.trans (hb4.mono HB.out.size))
    obtain ⟨q1, q2, q3, rfl⟩ := rdS hr4
    clear hr4 hb4
    go_wp2_with fail
    refine (HP4.out).mono ?_
    rintro e w5 ⟨v5, rfl, hown5, hb5⟩
    have HB5 := Lib.hid (HB4.out.trans (hb5.mono HB4.out.size))
    have HR5 := Lib.hid hown5.rd
    obtain ⟨r1, r2, r3, rfl⟩ := slOf hown5
    clear hown5 hb5
    have HR6 := Lib.hid (show Rd (w5.alloc (.cells #[.slice r1 r2 r3] 25)) (.slice r1 r2 r3) (bvs V3) from (HR5.out).alloc _)
    have HS6 := Lib.hid (HSO.out (w5.alloc (.cells #[.slice r1 r2 r3] 25)) w5.heap.size (.slice r1 r2 r3) (by simp) (cell_new rfl) HR6.out)
    have HB6 := Lib.hid (HB5.out.alloc HB5.out.size (.cells #[.slice r1 r2 r3] 25))
    go_wp2_with fail
    refine (HS6.out).mono ?_
    rintro e w7 ⟨ob, rfl, hrd7, hb7⟩
    have HB7 := Lib.hid (HB6.out.trans (hb7.mono HB6.out.size))
    have HRR := Lib.hid hrd7
    clear hrd7 hb7
    go_wp2_with fail
    go_ret
    exact ⟨_, rfl, HRR.out, HB7.out⟩
set_option maxRecDepth 100000 in
set_option maxHeartbeats 4000000 in
theorem rseen_any (v : Value) (t : List NodeD) (p o : Nat) (w : World) (h : TreeR w v t) (hs : smallT t = true) (hok : TreeOk t) (hr : rightT t = true) (hpn : p < t.length) (hon : o < t.length) :
    Calls Tryz.prog 12 #[v, .int .i64 (p : Nat), .int .i64 (o : Nat)] w fun e w' => ∃ v', e = .returned v' ∧ Own w' w.heap.size 5 v' (bvs (shaF (seenT t p o))) ∧ Below w.heap.size w w' := by
  have RH := fun (W : World) (hw : Below w.heap.size w W) (vp : Value) (hp : Rd W vp (ivs .i64 (nd t p).par.late)) => rhashX_any t hs hok hr o hon v vp (nd t p).par.late W (h.below hw (Nat.le_refl _)) hp
  have hslen := seenT_len hs p o
  have hslt := seenT_lt hs hok p o
  have hV3 : seenT t p o = (vecB (nd t p).par.box ++ vecB (nd t p).par.hash) ++ vecB (hashX (woD t (nd t p).par.late) o) := rfl
  have hxl := hashX_len (woD t (nd t p).par.late) o
  have hlen := smallT_len hs
  have hsm := of_decide_eq_true (smallT_nd hs p)
  have hl6 : (nd t p).par.box.length ≤ 200 := by omega
  have hl7 : (nd t p).par.hash.length ≤ 200 := by omega
  have hl8 : (nd t p).par.late.length ≤ 60 := by omega
  obtain ⟨ta, c, rfl, hc, hc2⟩ := h.sl
  obtain ⟨b, off, cs, rfl, hbl, hnc, hra⟩ := h.node hpn
  obtain ⟨a1, c1, a2, c2, a3, c3, a4, c4, a5, c5, b1, e1, b2, e2, b3, e3, rfl, h1, h2, h3, h4, h5, h6, h7, h8⟩ := hnc
  have c7 := hra 7 _ rfl
  have c8 := hra 8 _ rfl
  have c9 := hra 9 _ rfl
  have v1l := vecB_len (nd t p).par.box (by omega)
  have v2l := vecB_len (nd t p).par.hash (by omega)
  have v3l := vecB32 hxl
  have VE1 := fun (W : World) (hw : Below w.heap.size w W) => rvec_any _ _ W (h6.below hw (Nat.le_refl _)) (by omega)
  have VE2 := fun (W : World) (hw : Below w.heap.size w W) => rvec_any _ _ W (h7.below hw (Nat.le_refl _)) (by omega)
  have VE3 := fun (W : World) (y : Value) (hy : Rd W y (bvs (hashX (woD t (nd t p).par.late) o))) => rvec_any y _ W hy (by omega)
  have RH2 := fun (W : World) (hw : Below w.heap.size w W) => RH W hw _ (h8.below hw (Nat.le_refl _))
  have DG := fun (W : World) (y : Value) (hy : Rd W y (bvs (seenT t p o))) => digest_any y _ W hy hslt (by omega)
  obtain ⟨SH, hSH⟩ : ∃ S, S = shaF (seenT t p o) := ⟨_, rfl⟩
  rw [← hSH] at DG ⊢
  obtain ⟨V1, hV1⟩ : ∃ V, V = vecB (nd t p).par.box := ⟨_, rfl⟩
  obtain ⟨VB, hVB⟩ : ∃ V, V = vecB (nd t p).par.hash := ⟨_, rfl⟩
  obtain ⟨VC, hVC⟩ : ∃ V, V = vecB (hashX (woD t (nd t p).par.late) o) := ⟨_, rfl⟩
  rw [hV3, ← hV1, ← hVB, ← hVC] at DG
  rw [← hV1] at VE1 v1l
  rw [← hVB] at VE2 v2l
  rw [← hVC] at VE3 v3l
  obtain ⟨HO, hHO⟩ : ∃ V, V = hashX (woD t (nd t p).par.late) o := ⟨_, rfl⟩
  rw [← hHO] at VE3 RH2
  obtain ⟨l6, hl6'⟩ : ∃ l, l = (nd t p).par.box.length := ⟨_, rfl⟩
  obtain ⟨l7, hl7'⟩ : ∃ l, l = (nd t p).par.hash.length := ⟨_, rfl⟩
  obtain ⟨l8, hl8'⟩ : ∃ l, l = (nd t p).par.late.length := ⟨_, rfl⟩
  rw [← hl6'] at c7 VE1
  rw [← hl7'] at c8 VE2
  rw [← hl8'] at c9 RH2
  have HR3 := Lib.hid (show w.rangeAt b (off + p * 10 + 7) [.slice b1 l6 e1, .slice b2 l7 e2, .slice b3 l8 e3] from by
    intro j u hu
    match j, hu with
    | 0, hu => simp at hu; subst hu; exact c7
    | 1, hu => simp at hu; subst hu; exact c8
    | 2, hu => simp at hu; subst hu; exact c9
    | j + 3, hu => simp at hu)
  have HL1 := Lib.hid (show V1.length + VB.length < 1000000000 by omega)
  have HL2 := Lib.hid (show (V1 ++ VB).length + VC.length < 1000000000 by rw [List.length_append]; omega)
  obtain ⟨n, hn⟩ : ∃ n, n = t.length := ⟨_, rfl⟩
  rw [← hn] at RH2 hc hpn hlen ⊢
  have hpI : (p : Int) < (n : Int) := by omega
  have HV10 := Lib.hid VE1
  have HV20 := Lib.hid VE2
  have HV3 := Lib.hid VE3
  have HRH0 := Lib.hid RH2
  have HDG := Lib.hid DG
  clear VE1 VE2 VE3 RH RH2 DG hslen hslt hV3 hV1 hVB hVC hHO hSH hl6' hl7' hl8' hxl hsm v1l v2l v3l h1 h2 h3 h4 h5 h6 h7 h8 hra h hs hok hr hon hn hl6 hl7 hl8 c7 c8 c9
  go_enter Tryz.func12, Tryz.ntmps12
  go_wp2_with (refine wpList_load_mid rfl 33 (.tmp 11) rfl b (off + p * 10 + 7) rfl [.slice b1 l6 e1, .slice b2 l7 e2, .slice b3 l8 e3] _ HR3.out Tryz.underlying33 rfl (by kernel_rfl) ?_)
  have HBK := Lib.hid (Blk.new w 33 #[.slice b1 l6 e1, .slice b2 l7 e2, .slice b3 l8 e3])
  have HB := Lib.hid ((Below.refl w.heap.size w).alloc (Nat.le_refl _) (.cells #[.slice b1 l6 e1, .slice b2 l7 e2, .slice b3 l8 e3] 33))
  generalize hwr : w.alloc (.cells #[.slice b1 l6 e1, .slice b2 l7 e2, .slice b3 l8 e3] 33) = wr at HBK HB ⊢
  clear hwr
  have HX0 := Lib.hid (show wr.cell? ⟨w.heap.size, 0, none⟩ = some (.slice b1 l6 e1) by rw [HBK.out.cell]; rfl)
  have HX1 := Lib.hid (show wr.cell? ⟨w.heap.size, 1, none⟩ = some (.slice b2 l7 e2) by rw [HBK.out.cell]; rfl)
  have HX2 := Lib.hid (show wr.cell? ⟨w.heap.size, 2, none⟩ = some (.slice b3 l8 e3) by rw [HBK.out.cell]; rfl)
  have HV1 := Lib.hid (fun (W : World) (hw : Below wr.heap.size wr W) => HV10.out W (HB.out.trans (hw.mono HB.out.size)))
  have HV2 := Lib.hid (fun (W : World) (hw : Below wr.heap.size wr W) => HV20.out W (HB.out.trans (hw.mono HB.out.size)))
  have HRH := Lib.hid (fun (W : World) (hw : Below wr.heap.size wr W) => HRH0.out W (HB.out.trans (hw.mono HB.out.size)))
  go_wp2_with fail
  refine wp_region_rel [fun v _ => v = .pointer (some ⟨w.heap.size, 0, none⟩), fun v _ => v = .slice b1 l6 e1, fun v w' => Own w' wr.heap.size 5 v (bvs V1), fun v _ => v = .pointer (some ⟨w.heap.size, 1, none⟩), fun v _ => v = .slice b2 l7 e2, fun v w' => Own w' wr.heap.size 5 v (bvs VB), fun v w' => Own w' wr.heap.size 5 v (bvs (V1 ++ VB)), fun v _ => v = .slice (some ⟨b, off, none⟩) n c, fun v _ => v = .int .i64 (o : Nat), fun v _ => v = .pointer (some ⟨w.heap.size, 2, none⟩), fun v _ => v = .slice b3 l8 e3, fun v w' => Own w' wr.heap.size 5 v (bvs HO), fun v w' => Own w' wr.heap.size 5 v (bvs VC), fun v w' => Own w' wr.heap.size 5 v (bvs ((V1 ++ VB) ++ VC)), fun v w' => Own w' wr.heap.size 5 v (bvs SH), fun v w' => Own w' wr.heap.size 5 v (bvs SH)]
    [true, true, true, true, true, true, true, true, true, true, true, true, true, true, true, true] (fun x => Below wr.heap.size wr x) (fun x y => Below x.heap.size x y) none (by kernel_rfl) ?_ (⟨rfl, rfl, rfl, Nat.le_refl _, fun _ _ => rfl⟩) (fun x y _ h => h) (fun x y hx hs => hx.trans (hs.mono hx.size)) (by kernel_rfl) (by kernel_rfl) ?_ ?_
  · exact keepsR_n (fun _ _ _ h _ _ => h) (keepsR_n (fun _ _ _ h _ _ => h) (keepsR_n (fun v x y h _ hs => Own.below h hs (Nat.le_refl _)) (keepsR_n (fun _ _ _ h _ _ => h) (keepsR_n (fun _ _ _ h _ _ => h) (keepsR_n (fun v x y h _ hs => Own.below h hs (Nat.le_refl _)) (keepsR_n (fun v x y h _ hs => Own.below h hs (Nat.le_refl _)) (keepsR_n (fun _ _ _ h _ _ => h) (keepsR_n (fun _ _ _ h _ _ => h) (keepsR_n (fun _ _ _ h _ _ => h) (keepsR_n (fun _ _ _ h _ _ => h) (keepsR_n (fun v x y h _ hs => Own.below h hs (Nat.le_refl _)) (keepsR_n (fun v x y h _ hs => Own.below h hs (Nat.le_refl _)) (keepsR_n (fun v x y h _ hs => Own.below h hs (Nat.le_refl _)) (keepsR_n (fun v x y h _ hs => Own.below h hs (Nat.le_refl _)) (keepsR_n (fun v x y h _ hs => Own.below h hs (Nat.le_refl _)) (keepsR_nil))))))))))))))))
  · refine .cons (owed7_go ?_) (.cons (owed7_go ?_) (.cons (owed7_go ?_) (.cons (owed7_go ?_) (.cons (owed7_go ?_) (.cons (owed7_go ?_) (.cons (owed7_go ?_) (.cons (owed7_go ?_) (.cons (owed7_go ?_) (.cons (owed7_go ?_) (.cons (owed7_go ?_) (.cons (owed7_go ?_) (.cons (owed7_go ?_) (.cons (owed7_go ?_) (.cons (owed7_go ?_) (.cons (owed7_go ?_) (.nil))))))))))))))))
    · intro a wx hbx hq ho hf
      have hbx : Below wr.heap.size wr wx := hbx
      have hbq : Below wr.heap.size wr wx := hq (by kernel_rfl)
      clear hq
      refine ⟨rfl, ?_⟩
      intro K hK
      have e0 : a.tmps[7]?.getD undef = .pointer (some ⟨w.heap.size, 0, none⟩) := ho 7 (by kernel_rfl)
      go_simp
      exact hK _ _ rfl (stepR_no rfl (Below.refl _ _))
    · intro a wx hbx hq ho hf
      have hbx : Below wr.heap.size wr wx := hbx
      have hbq : Below wr.heap.size wr wx := hq (by kernel_rfl)
      clear hq
      refine ⟨rfl, ?_⟩
      intro K hK
      have e0 : a.tmps[13]?.getD undef = .pointer (some ⟨w.heap.size, 0, none⟩) := hf.1
      have d1 := (hbx.cell (p := ⟨w.heap.size, 0, none⟩) HBK.out.lt).trans (HX0.out)
      go_simp
      exact hK _ _ rfl (stepR_no rfl (Below.refl _ _))
    · intro a wx hbx hq ho hf
      have hbx : Below wr.heap.size wr wx := hbx
      have hbq : Below wr.heap.size wr wx := hq (by kernel_rfl)
      clear hq
      refine ⟨rfl, ?_⟩
      intro K hK
      have e0 : a.tmps[14]?.getD undef = .slice b1 l6 e1 := hf.1
      go_simp
      refine (HV1.out wx hbx).mono ?_
      rintro e w2 ⟨v9, rfl, hown, hb2⟩
      exact hK _ _ (hown.mono hbx.size) (stepR_no rfl hb2)
    · intro a wx hbx hq ho hf
      have hbx : Below wr.heap.size wr wx := hbx
      have hbq : Below wr.heap.size wr wx := hq (by kernel_rfl)
      clear hq
      refine ⟨rfl, ?_⟩
      intro K hK
      have e0 : a.tmps[7]?.getD undef = .pointer (some ⟨w.heap.size, 0, none⟩) := ho 7 (by kernel_rfl)
      go_simp
      exact hK _ _ rfl (stepR_no rfl (Below.refl _ _))
    · intro a wx hbx hq ho hf
      have hbx : Below wr.heap.size wr wx := hbx
      have hbq : Below wr.heap.size wr wx := hq (by kernel_rfl)
      clear hq
      refine ⟨rfl, ?_⟩
      intro K hK
      have e0 : a.tmps[16]?.getD undef = .pointer (some ⟨w.heap.size, 1, none⟩) := hf.1
      have d1 := (hbx.cell (p := ⟨w.heap.size, 1, none⟩) HBK.out.lt).trans (HX1.out)
      go_simp
      exact hK _ _ rfl (stepR_no rfl (Below.refl _ _))
    · intro a wx hbx hq ho hf
      have hbx : Below wr.heap.size wr wx := hbx
      have hbq : Below wr.heap.size wr wx := hq (by kernel_rfl)
      clear hq
      refine ⟨rfl, ?_⟩
      intro K hK
      have e0 : a.tmps[17]?.getD undef = .slice b2 l7 e2 := hf.1
      go_simp
      refine (HV2.out wx hbx).mono ?_
      rintro e w2 ⟨v9, rfl, hown, hb2⟩
      exact hK _ _ (hown.mono hbx.size) (stepR_no rfl hb2)
    · intro a wx hbx hq ho hf
      have hbx : Below wr.heap.size wr wx := hbx
      have hbq : Below wr.heap.size wr wx := hq (by kernel_rfl)
      clear hq
      refine ⟨rfl, ?_⟩
      intro K hK
      have o0 : Own wx wr.heap.size 5 (a.tmps[15]?.getD undef) (bvs V1) := hf.1
      obtain ⟨v0, hv0⟩ : ∃ v, v = a.tmps[15]?.getD undef := ⟨_, rfl⟩
      rw [← hv0] at o0
      have e0 := hv0.symm
      clear hv0
      have o1 : Own wx wr.heap.size 5 (a.tmps[18]?.getD undef) (bvs VB) := hf.2.1
      obtain ⟨v1, hv1⟩ : ∃ v, v = a.tmps[18]?.getD undef := ⟨_, rfl⟩
      rw [← hv1] at o1
      have e1 := hv1.symm
      clear hv1
      go_simp
      refine (join18_any v0 v1 V1 VB wx o0.rd o1.rd HL1.out).mono ?_
      rintro e w2 ⟨v9, rfl, hown, hb2⟩
      exact hK _ _ (hown.mono hbx.size) (stepR_no rfl hb2)
    · intro a wx hbx hq ho hf
      have hbx : Below wr.heap.size wr wx := hbx
      have hbq : Below wr.heap.size wr wx := hq (by kernel_rfl)
      clear hq
      refine ⟨rfl, ?_⟩
      intro K hK
      have e0 : a.tmps[0]?.getD undef = .slice (some ⟨b, off, none⟩) n c := ho 0 (by kernel_rfl)
      go_simp
      exact hK _ _ rfl (stepR_no rfl (Below.refl _ _))
    · intro a wx hbx hq ho hf
      have hbx : Below wr.heap.size wr wx := hbx
      have hbq : Below wr.heap.size wr wx := hq (by kernel_rfl)
      clear hq
      refine ⟨rfl, ?_⟩
      intro K hK
      have e0 : a.tmps[2]?.getD undef = .int .i64 (o : Nat) := ho 2 (by kernel_rfl)
      go_simp
      exact hK _ _ rfl (stepR_no rfl (Below.refl _ _))
    · intro a wx hbx hq ho hf
      have hbx : Below wr.heap.size wr wx := hbx
      have hbq : Below wr.heap.size wr wx := hq (by kernel_rfl)
      clear hq
      refine ⟨rfl, ?_⟩
      intro K hK
      have e0 : a.tmps[7]?.getD undef = .pointer (some ⟨w.heap.size, 0, none⟩) := ho 7 (by kernel_rfl)
      go_simp
      exact hK _ _ rfl (stepR_no rfl (Below.refl _ _))
    · intro a wx hbx hq ho hf
      have hbx : Below wr.heap.size wr wx := hbx
      have hbq : Below wr.heap.size wr wx := hq (by kernel_rfl)
      clear hq
      refine ⟨rfl, ?_⟩
      intro K hK
      have e0 : a.tmps[22]?.getD undef = .pointer (some ⟨w.heap.size, 2, none⟩) := hf.1
      have d1 := (hbx.cell (p := ⟨w.heap.size, 2, none⟩) HBK.out.lt).trans (HX2.out)
      go_simp
      exact hK _ _ rfl (stepR_no rfl (Below.refl _ _))
    · intro a wx hbx hq ho hf
      have hbx : Below wr.heap.size wr wx := hbx
      have hbq : Below wr.heap.size wr wx := hq (by kernel_rfl)
      clear hq
      refine ⟨rfl, ?_⟩
      intro K hK
      have e0 : a.tmps[20]?.getD undef = .slice (some ⟨b, off, none⟩) n c := hf.1
      have e1 : a.tmps[21]?.getD undef = .int .i64 (o : Nat) := hf.2.1
      have e2 : a.tmps[23]?.getD undef = .slice b3 l8 e3 := hf.2.2.1
      go_simp
      refine (HRH.out wx hbx).mono ?_
      rintro e w2 ⟨v9, rfl, hown, hb2⟩
      exact hK _ _ (hown.mono hbx.size) (stepR_no rfl hb2)
    · intro a wx hbx hq ho hf
      have hbx : Below wr.heap.size wr wx := hbx
      have hbq : Below wr.heap.size wr wx := hq (by kernel_rfl)
      clear hq
      refine ⟨rfl, ?_⟩
      intro K hK
      have o0 : Own wx wr.heap.size 5 (a.tmps[24]?.getD undef) (bvs HO) := hf.1
      obtain ⟨v0, hv0⟩ : ∃ v, v = a.tmps[24]?.getD undef := ⟨_, rfl⟩
      rw [← hv0] at o0
      have e0 := hv0.symm
      clear hv0
      go_simp
      refine (HV3.out wx v0 o0.rd).mono ?_
      rintro e w2 ⟨v9, rfl, hown, hb2⟩
      exact hK _ _ (hown.mono hbx.size) (stepR_no rfl hb2)
    · intro a wx hbx hq ho hf
      have hbx : Below wr.heap.size wr wx := hbx
      have hbq : Below wr.heap.size wr wx := hq (by kernel_rfl)
      clear hq
      refine ⟨rfl, ?_⟩
      intro K hK
      have o0 : Own wx wr.heap.size 5 (a.tmps[19]?.getD undef) (bvs (V1 ++ VB)) := hf.1
      obtain ⟨v0, hv0⟩ : ∃ v, v = a.tmps[19]?.getD undef := ⟨_, rfl⟩
      rw [← hv0] at o0
      have e0 := hv0.symm
      clear hv0
      have o1 : Own wx wr.heap.size 5 (a.tmps[25]?.getD undef) (bvs VC) := hf.2.1
      obtain ⟨v1, hv1⟩ : ∃ v, v = a.tmps[25]?.getD undef := ⟨_, rfl⟩
      rw [← hv1] at o1
      have e1 := hv1.symm
      clear hv1
      go_simp
      refine (join18_any v0 v1 (V1 ++ VB) VC wx o0.rd o1.rd HL2.out).mono ?_
      rintro e w2 ⟨v9, rfl, hown, hb2⟩
      exact hK _ _ (hown.mono hbx.size) (stepR_no rfl hb2)
    · intro a wx hbx hq ho hf
      have hbx : Below wr.heap.size wr wx := hbx
      have hbq : Below wr.heap.size wr wx := hq (by kernel_rfl)
      clear hq
      refine ⟨rfl, ?_⟩
      intro K hK
      have o0 : Own wx wr.heap.size 5 (a.tmps[26]?.getD undef) (bvs ((V1 ++ VB) ++ VC)) := hf.1
      obtain ⟨v0, hv0⟩ : ∃ v, v = a.tmps[26]?.getD undef := ⟨_, rfl⟩
      rw [← hv0] at o0
      have e0 := hv0.symm
      clear hv0
      go_simp
      refine (HDG.out wx v0 o0.rd).mono ?_
      rintro e w2 ⟨v9, rfl, hown, hb2⟩
      exact hK _ _ (hown.mono hbx.size) (stepR_no rfl hb2)
    · intro a wx hbx hq ho hf
      have hbx : Below wr.heap.size wr wx := hbx
      have hbq : Below wr.heap.size wr wx := hq (by kernel_rfl)
      clear hq
      refine ⟨rfl, ?_⟩
      intro K hK
      have o0 : Own wx wr.heap.size 5 (a.tmps[27]?.getD undef) (bvs SH) := hf.1
      obtain ⟨v0, hv0⟩ : ∃ v, v = a.tmps[27]?.getD undef := ⟨_, rfl⟩
      rw [← hv0] at o0
      have e0 := hv0.symm
      clear hv0
      go_simp
      exact hK _ _ o0 (stepR_no rfl (Below.refl _ _))
  · rintro f w9 hb9 hfin
    have hb9 : Below wr.heap.size wr w9 := hb9
    have S6 : Own w9 wr.heap.size 5 (f 6) (bvs SH) := hfin.2.2.2.2.2.2.2.2.2.2.2.2.2.2.2.1
    clear hfin
    simp only [frameOf, dstsOf, zipF, List.filterMap_cons, List.filterMap_nil, List.contains_cons, List.contains_nil, Nat.reduceBEq, Nat.reduceAdd, Bool.or_false, Bool.or_true, cond_true, cond_false]
    obtain ⟨u6, hu6⟩ : ∃ u, u = f 6 := ⟨_, rfl⟩
    rw [← hu6] at S6 ⊢
    clear hu6
    have HB9 := HB.out.trans (hb9.mono HB.out.size)
    have HO6 := S6.mono HB.out.size
    go_wp2_with fail
    go_ret
    exact ⟨_, rfl, HO6, HB9⟩
end Go.Proofs.YtohldijomcljkaaGreat
/- Walks: hash.Seen, the law HashSeen. -/
namespace Go.Proofs.YtohldijomcljkaaGreat
open Go.RowKit WalkM ShaM WireM
set_option linter.unusedVariables false
/-- a parent of a tree that may be, and its children -/
theorem par_kids {t : List NodeD} (hs : smallT t = true) (hr : rightT t = true) {p : Nat} (hpn : p < t.length) (hk : (nd t p).kind = 2) : ∃ l r : Nat, leftZ (p : Int) = (l : Int) ∧ rightZ (p : Int) = (r : Int) ∧ l < t.length ∧ r < t.length ∧ l ≠ r ∧ l + r ≤ 1000 := by
  have hod := placed_two (right_placed hr) hpn hk
  have hlev := lev_within hs hr hpn
  obtain ⟨k, hlx⟩ : ∃ k, lev p = k + 1 := by
    cases hkk : lev p with
    | zero => have := hlev.1; rw [hkk] at this; have := lev_zero this; omega
    | succ k => exact ⟨k, rfl⟩
  have hlen := smallT_len hs
  have hlev1 := hlev.1
  have hup := hlev.2
  rw [hlx] at hlev1 hup
  obtain ⟨hkl, hkr, -, -, hkx⟩ := kids_lev (by omega) hlev1
  have hp1 : 0 < 2 ^ k := Nat.pos_of_ne_zero (by simp)
  have hpw : 2 ^ (k + 1) = 2 * 2 ^ k := by rw [Nat.pow_succ]; omega
  rw [hpw] at hup
  exact ⟨_, _, hkl, hkr, by omega, by omega, by omega, by omega⟩
set_option maxRecDepth 100000 in
set_option maxHeartbeats 4000000 in
theorem hseen_no (v : Value) (t : List NodeD) (p c : Int) (w : World) (h : TreeR w v t) (hs : smallT t = true) (hok : TreeOk t) (hr : rightT t = false) :
    Calls Tryz.prog 8 #[v, .int .i64 p, .int .i64 c] w fun e w' => e = .returned (.tuple #[.slice none 0 0, .int .u8 12]) ∧ Below w.heap.size w w' := by
  have TR := tright_any v t w h hs hok
  rw [hr] at TR
  have HT := Lib.hid TR
  obtain ⟨a, n, c', rfl⟩ : ∃ a n c, v = .slice a n c := by obtain ⟨a, c, e, _⟩ := h.sl; exact ⟨_, _, _, e⟩
  clear TR h hs hok hr
  go_enter Tryz.func8, Tryz.ntmps8
  go_wp2_with fail
  refine (HT.out).mono ?_
  rintro e w1 ⟨rfl, hb⟩
  have HB := Lib.hid hb
  clear hb
  go_wp2_with fail
  go_ret2
  exact ⟨rfl, HB.out⟩
set_option maxRecDepth 100000 in
set_option maxHeartbeats 4000000 in
theorem hseen_off (v : Value) (t : List NodeD) (p c : Int) (w : World) (h : TreeR w v t) (hs : smallT t = true) (hok : TreeOk t) (hr : rightT t = true) (hp : p < 0 ∨ (t.length : Int) ≤ p) :
    Calls Tryz.prog 8 #[v, .int .i64 p, .int .i64 c] w fun e w' => e = .returned (.tuple #[.slice none 0 0, .int .u8 7]) ∧ Below w.heap.size w w' := by
  have TR := tright_any v t w h hs hok
  rw [hr] at TR
  have HT := Lib.hid TR
  obtain ⟨a, n0, rfl, hc, hc2⟩ := h.sl
  obtain ⟨n, hn⟩ : ∃ n, n = t.length := ⟨_, rfl⟩
  rw [← hn] at HT hp hc ⊢
  clear TR h hs hok hr hn
  by_cases h0 : p < 0
  · have h0' : decide (p < 0) = true := decide_eq_true h0
    clear hp
    go_enter Tryz.func8, Tryz.ntmps8
    go_wp2_with fail
    refine (HT.out).mono ?_
    rintro e w1 ⟨rfl, hb⟩
    have HB := Lib.hid hb
    clear hb
    go_wp2_with fail
    go_ret2
    exact ⟨rfl, HB.out⟩
  · have h0' : decide (p < 0) = false := decide_eq_false h0
    have h1' : decide (p ≥ (n : Int)) = true := decide_eq_true (by omega)
    have h2' : decide ((n : Int) ≤ p) = true := decide_eq_true (by omega)
    clear hp
    go_enter Tryz.func8, Tryz.ntmps8
    go_wp2_with fail
    refine (HT.out).mono ?_
    rintro e w1 ⟨rfl, hb⟩
    have HB := Lib.hid hb
    clear hb
    go_wp2_with fail
    go_ret2
    exact ⟨rfl, HB.out⟩
set_option maxRecDepth 100000 in
set_option maxHeartbeats 4000000 in
theorem hseen_kind (v : Value) (t : List NodeD) (p : Nat) (c : Int) (w : World) (h : TreeR w v t) (hs : smallT t = true) (hok : TreeOk t) (hr : rightT t = true) (hpn : p < t.length) (hk : (nd t p).kind ≠ 2) :
    Calls Tryz.prog 8 #[v, .int .i64 (p : Nat), .int .i64 c] w fun e w' => e = .returned (.tuple #[.slice none 0 0, .int .u8 7]) ∧ Below w.heap.size w w' := by
  have TR := tright_any v t w h hs hok
  rw [hr] at TR
  have HT := Lib.hid TR
  obtain ⟨ta, n0, rfl, hc, hc2⟩ := h.sl
  obtain ⟨b, off, l1, e1, rfl, hbl, ck, -, -⟩ := h.at hpn
  have HCK := Lib.hid ck
  obtain ⟨kd, hkd⟩ : ∃ k, k = (nd t p).kind := ⟨_, rfl⟩
  rw [← hkd] at HCK hk
  have hq : ((kd : Int) != 2) = true := by rw [bne_iff_ne]; omega
  obtain ⟨n, hn⟩ : ∃ n, n = t.length := ⟨_, rfl⟩
  rw [← hn] at HT hpn hc ⊢
  have h0' : decide ((p : Int) < 0) = false := decide_eq_false (by omega)
  have h1' : decide ((p : Int) ≥ (n : Int)) = false := decide_eq_false (by omega)
  have h2' : decide ((n : Int) ≤ (p : Int)) = false := decide_eq_false (by omega)
  have hpI : (p : Int) < (n : Int) := by omega
  clear TR h hs hok hr hn hkd ck hk
  go_enter Tryz.func8, Tryz.ntmps8
  go_wp2_with fail
  refine (HT.out).mono ?_
  rintro e w1 ⟨rfl, hb⟩
  have HB := Lib.hid hb
  clear hb
  have ck := (HB.out.cell (p := ⟨b, off + p * 10, none⟩) hbl).trans HCK.out
  go_wp2_with fail
  go_ret2
  exact ⟨rfl, HB.out⟩
set_option maxRecDepth 100000 in
set_option maxHeartbeats 4000000 in
theorem hseen_neg (v : Value) (t : List NodeD) (p l r : Nat) (c : Int) (w : World) (h : TreeR w v t) (hs : smallT t = true) (hok : TreeOk t) (hr : rightT t = true) (hpn : p < t.length) (hk : (nd t p).kind = 2) (hl : leftZ (p : Int) = (l : Int)) (hrr : rightZ (p : Int) = (r : Int)) (hcn : c < 0) :
    Calls Tryz.prog 8 #[v, .int .i64 (p : Nat), .int .i64 c] w fun e w' => e = .returned (.tuple #[.slice none 0 0, .int .u8 1]) ∧ Below w.heap.size w w' := by
  have TR := tright_any v t w h hs hok
  rw [hr] at TR
  have HT := Lib.hid TR
  obtain ⟨ta, n0, rfl, hc, hc2⟩ := h.sl
  obtain ⟨b, off, l1, e1, rfl, hbl, ck, -, -⟩ := h.at hpn
  have HCK := Lib.hid ck
  rw [hk] at HCK
  have LF := fun (W : World) => wleft_any (p : Int) W
  have RT := fun (W : World) => wright_any (p : Int) W
  rw [hl] at LF
  rw [hrr] at RT
  have HLF := Lib.hid LF
  have HRT := Lib.hid RT
  have hc0 : decide (c < 0) = true := decide_eq_true hcn
  obtain ⟨n, hn⟩ : ∃ n, n = t.length := ⟨_, rfl⟩
  rw [← hn] at HT hpn hc ⊢
  have h0' : decide ((p : Int) < 0) = false := decide_eq_false (by omega)
  have h1' : decide ((p : Int) ≥ (n : Int)) = false := decide_eq_false (by omega)
  have h2' : decide ((n : Int) ≤ (p : Int)) = false := decide_eq_false (by omega)
  have hpI : (p : Int) < (n : Int) := by omega
  clear TR LF RT h hs hok hr hn ck hk hl hrr hcn
  go_enter Tryz.func8, Tryz.ntmps8
  go_wp2_with fail
  refine (HT.out).mono ?_
  rintro e w1 ⟨rfl, hb⟩
  have HB := Lib.hid hb
  clear hb
  have ck := (HB.out.cell (p := ⟨b, off + p * 10, none⟩) hbl).trans HCK.out
  go_wp2_with fail
  go_ret2
  exact ⟨rfl, HB.out⟩
set_option maxRecDepth 100000 in
set_option maxHeartbeats 4000000 in
theorem hseen_arg (v : Value) (t : List NodeD) (p l r : Nat) (c : Int) (w : World) (h : TreeR w v t) (hs : smallT t = true) (hok : TreeOk t) (hr : rightT t = true) (hpn : p < t.length) (hk : (nd t p).kind = 2) (hl : leftZ (p : Int) = (l : Int)) (hrr : rightZ (p : Int) = (r : Int)) (hcn : 0 ≤ c) (hcl : c ≠ (l : Int)) (hcr : c ≠ (r : Int)) :
    Calls Tryz.prog 8 #[v, .int .i64 (p : Nat), .int .i64 c] w fun e w' => e = .returned (.tuple #[.slice none 0 0, .int .u8 1]) ∧ Below w.heap.size w w' := by
  have TR := tright_any v t w h hs hok
  rw [hr] at TR
  have HT := Lib.hid TR
  obtain ⟨ta, n0, rfl, hc, hc2⟩ := h.sl
  obtain ⟨b, off, l1, e1, rfl, hbl, ck, -, -⟩ := h.at hpn
  have HCK := Lib.hid ck
  rw [hk] at HCK
  have LF := fun (W : World) => wleft_any (p : Int) W
  have RT := fun (W : World) => wright_any (p : Int) W
  rw [hl] at LF
  rw [hrr] at RT
  have HLF := Lib.hid LF
  have HRT := Lib.hid RT
  have hc0 : decide (c < 0) = false := decide_eq_false (by omega)
  have hc1 : (c != (l : Int)) = true := bne_iff_ne.2 hcl
  have hc2' : (c != (r : Int)) = true := bne_iff_ne.2 hcr
  obtain ⟨n, hn⟩ : ∃ n, n = t.length := ⟨_, rfl⟩
  rw [← hn] at HT hpn hc ⊢
  have h0' : decide ((p : Int) < 0) = false := decide_eq_false (by omega)
  have h1' : decide ((p : Int) ≥ (n : Int)) = false := decide_eq_false (by omega)
  have h2' : decide ((n : Int) ≤ (p : Int)) = false := decide_eq_false (by omega)
  have hpI : (p : Int) < (n : Int) := by omega
  clear TR LF RT h hs hok hr hn ck hk hl hrr hcn
  go_enter Tryz.func8, Tryz.ntmps8
  go_wp2_with fail
  refine (HT.out).mono ?_
  rintro e w1 ⟨rfl, hb⟩
  have HB := Lib.hid hb
  clear hb
  have ck := (HB.out.cell (p := ⟨b, off + p * 10, none⟩) hbl).trans HCK.out
  go_wp2_with fail
  refine (HLF.out _).mono ?_
  rintro e w' ⟨rfl, rfl⟩
  go_wp2_with fail
  refine (HRT.out _).mono ?_
  rintro e w' ⟨rfl, rfl⟩
  go_wp2_with fail
  go_ret2
  exact ⟨rfl, HB.out⟩
set_option maxRecDepth 100000 in
set_option maxHeartbeats 4000000 in
theorem hseen_left (v : Value) (t : List NodeD) (p l r c0 o : Nat) (w : World) (h : TreeR w v t) (hs : smallT t = true) (hok : TreeOk t) (hr : rightT t = true) (hpn : p < t.length) (hk : (nd t p).kind = 2) (hl : leftZ (p : Int) = (l : Int)) (hrr : rightZ (p : Int) = (r : Int)) (hlr : l ≠ r) (hcl : c0 = l) (hon : o < t.length) (hsum : l + r = c0 + o) (hsz : l + r ≤ 1000) :
    Calls Tryz.prog 8 #[v, .int .i64 (p : Nat), .int .i64 (c0 : Nat)] w fun e w' => ∃ u, e = .returned (.tuple #[u, .int .u8 0]) ∧ Rd w' u (bvs (shaF (seenT t p o))) ∧ Below w.heap.size w w' := by
  have TR := tright_any v t w h hs hok
  rw [hr] at TR
  have HT := Lib.hid TR
  obtain ⟨ta, n0, rfl, hc, hc2⟩ := h.sl
  obtain ⟨b, off, l1, e1, rfl, hbl, ck, -, -⟩ := h.at hpn
  have HCK := Lib.hid ck
  rw [hk] at HCK
  have LF := fun (W : World) => wleft_any (p : Int) W
  have RT := fun (W : World) => wright_any (p : Int) W
  rw [hl] at LF
  rw [hrr] at RT
  have HLF := Lib.hid LF
  have HRT := Lib.hid RT
  have SE := fun (W : World) (hw : Below w.heap.size w W) => seen_any _ t p l r c0 o W (h.below hw (Nat.le_refl _)) hs hok hr hpn hon hl hrr hsum hsz
  obtain ⟨SH, hSH⟩ : ∃ S, S = shaF (seenT t p o) := ⟨_, rfl⟩
  rw [← hSH] at SE ⊢
  have HSE := Lib.hid SE
  have hcI : decide ((c0 : Int) < 0) = false := decide_eq_false (by omega)
  have hc1 : ((c0 : Int) != (l : Int)) = false := by rw [bne_eq_false_iff_eq]; omega
  obtain ⟨n, hn⟩ : ∃ n, n = t.length := ⟨_, rfl⟩
  rw [← hn] at HT hpn hc HSE ⊢
  have h0' : decide ((p : Int) < 0) = false := decide_eq_false (by omega)
  have h1' : decide ((p : Int) ≥ (n : Int)) = false := decide_eq_false (by omega)
  have h2' : decide ((n : Int) ≤ (p : Int)) = false := decide_eq_false (by omega)
  have hpI : (p : Int) < (n : Int) := by omega
  clear TR LF RT h hs hok hr hn ck hk hl hrr SE hSH hsum hsz hon hcl hlr
  go_enter Tryz.func8, Tryz.ntmps8
  go_wp2_with fail
  refine (HT.out).mono ?_
  rintro e w1 ⟨rfl, hb⟩
  have HB := Lib.hid hb
  clear hb
  have ck := (HB.out.cell (p := ⟨b, off + p * 10, none⟩) hbl).trans HCK.out
  go_wp2_with fail
  refine (HLF.out _).mono ?_
  rintro e w' ⟨rfl, rfl⟩
  go_wp2_with fail
  refine (HSE.out w1 HB.out).mono ?_
  rintro e w2 ⟨u, rfl, hru, hb⟩
  have HR := Lib.hid hru
  have HB2 := Lib.hid (HB.out.trans (hb.mono HB.out.size))
  clear hru hb
  go_wp2_with fail
  go_ret2
  exact ⟨_, rfl, HR.out, HB2.out⟩
set_option maxRecDepth 100000 in
set_option maxHeartbeats 4000000 in
theorem hseen_right (v : Value) (t : List NodeD) (p l r c0 o : Nat) (w : World) (h : TreeR w v t) (hs : smallT t = true) (hok : TreeOk t) (hr : rightT t = true) (hpn : p < t.length) (hk : (nd t p).kind = 2) (hl : leftZ (p : Int) = (l : Int)) (hrr : rightZ (p : Int) = (r : Int)) (hlr : l ≠ r) (hcl : c0 = r) (hon : o < t.length) (hsum : l + r = c0 + o) (hsz : l + r ≤ 1000) :
    Calls Tryz.prog 8 #[v, .int .i64 (p : Nat), .int .i64 (c0 : Nat)] w fun e w' => ∃ u, e = .returned (.tuple #[u, .int .u8 0]) ∧ Rd w' u (bvs (shaF (seenT t p o))) ∧ Below w.heap.size w w' := by
  have TR := tright_any v t w h hs hok
  rw [hr] at TR
  have HT := Lib.hid TR
  obtain ⟨ta, n0, rfl, hc, hc2⟩ := h.sl
  obtain ⟨b, off, l1, e1, rfl, hbl, ck, -, -⟩ := h.at hpn
  have HCK := Lib.hid ck
  rw [hk] at HCK
  have LF := fun (W : World) => wleft_any (p : Int) W
  have RT := fun (W : World) => wright_any (p : Int) W
  rw [hl] at LF
  rw [hrr] at RT
  have HLF := Lib.hid LF
  have HRT := Lib.hid RT
  have SE := fun (W : World) (hw : Below w.heap.size w W) => seen_any _ t p l r c0 o W (h.below hw (Nat.le_refl _)) hs hok hr hpn hon hl hrr hsum hsz
  obtain ⟨SH, hSH⟩ : ∃ S, S = shaF (seenT t p o) := ⟨_, rfl⟩
  rw [← hSH] at SE ⊢
  have HSE := Lib.hid SE
  have hcI : decide ((c0 : Int) < 0) = false := decide_eq_false (by omega)
  have hc1 : ((c0 : Int) != (l : Int)) = true := by rw [bne_iff_ne]; omega
  have hc2' : ((c0 : Int) != (r : Int)) = false := by rw [bne_eq_false_iff_eq]; omega
  obtain ⟨n, hn⟩ : ∃ n, n = t.length := ⟨_, rfl⟩
  rw [← hn] at HT hpn hc HSE ⊢
  have h0' : decide ((p : Int) < 0) = false := decide_eq_false (by omega)
  have h1' : decide ((p : Int) ≥ (n : Int)) = false := decide_eq_false (by omega)
  have h2' : decide ((n : Int) ≤ (p : Int)) = false := decide_eq_false (by omega)
  have hpI : (p : Int) < (n : Int) := by omega
  clear TR LF RT h hs hok hr hn ck hk hl hrr SE hSH hsum hsz hon hcl hlr
  go_enter Tryz.func8, Tryz.ntmps8
  go_wp2_with fail
  refine (HT.out).mono ?_
  rintro e w1 ⟨rfl, hb⟩
  have HB := Lib.hid hb
  clear hb
  have ck := (HB.out.cell (p := ⟨b, off + p * 10, none⟩) hbl).trans HCK.out
  go_wp2_with fail
  refine (HLF.out _).mono ?_
  rintro e w' ⟨rfl, rfl⟩
  go_wp2_with fail
  refine (HRT.out _).mono ?_
  rintro e w' ⟨rfl, rfl⟩
  go_wp2_with fail
  refine (HSE.out w1 HB.out).mono ?_
  rintro e w2 ⟨u, rfl, hru, hb⟩
  have HR := Lib.hid hru
  have HB2 := Lib.hid (HB.out.trans (hb.mono HB.out.size))
  clear hru hb
  go_wp2_with fail
  go_ret2
  exact ⟨_, rfl, HR.out, HB2.out⟩
set_option maxRecDepth 100000 in
set_option maxHeartbeats 8000000 in
theorem seenL_small {w : World} (v : Value) (t : List NodeD) (p c : Int) (h : TreeR w v t) (hok : TreeOk t) (hs : smallT t = false) :
    Calls Tryz.prog 3 #[v, .int .i64 p, .int .i64 c] w fun e w' => e = .returned (.bool true) ∧ Below w.heap.size w w' := by
  have HAL := Lib.hid (alive18 w)
  have SM := fun (W : World) (hw : Below w.heap.size w W) => tsmall_any v t W (h.below hw (Nat.le_refl _))
  have TB := fun (W : World) (hw : Below w.heap.size w W) => h.below hw (Nat.le_refl _)
  rw [hs] at SM
  have HSM := Lib.hid SM
  obtain ⟨a, n, c', rfl⟩ : ∃ a n c, v = .slice a n c := by obtain ⟨a, c, e, _⟩ := h.sl; exact ⟨_, _, _, e⟩
  clear SM TB h hok hs
  go_enter Tryz.func3, Tryz.ntmps3
  go_wp2_with fail
  refine (HAL.out).mono ?_
  rintro e w1 ⟨rfl, hb⟩
  have Hw1 := Lib.hid hb
  clear hb
  go_wp2_with fail
  refine (HSM.out w1 Hw1.out).mono ?_
  rintro e w2 ⟨rfl, hb⟩
  have Hw2 := Lib.hid (Hw1.out.trans (hb.mono Hw1.out.size))
  clear hb
  go_wp2_with fail
  go_ret
  exact ⟨rfl, Hw2.out⟩
set_option maxRecDepth 100000 in
set_option maxHeartbeats 8000000 in
theorem seenL_no {w : World} (v : Value) (t : List NodeD) (p c : Int) (h : TreeR w v t) (hok : TreeOk t) (hs : smallT t = true) (hr : rightT t = false) :
    Calls Tryz.prog 3 #[v, .int .i64 p, .int .i64 c] w fun e w' => e = .returned (.bool true) ∧ Below w.heap.size w w' := by
  have HAL := Lib.hid (alive18 w)
  have SM := fun (W : World) (hw : Below w.heap.size w W) => tsmall_any v t W (h.below hw (Nat.le_refl _))
  have TB := fun (W : World) (hw : Below w.heap.size w W) => h.below hw (Nat.le_refl _)
  rw [hs] at SM
  have HSM := Lib.hid SM
  have RR := fun (W : World) (hw : Below w.heap.size w W) => rtright_any _ t W (TB W hw) hs hok
  rw [hr] at RR
  have HRR := Lib.hid RR
  have HSE := Lib.hid (fun (W : World) (hw : Below w.heap.size w W) => hseen_no v t p c W (TB W hw) hs hok hr)
  obtain ⟨a, n, c', rfl⟩ : ∃ a n c, v = .slice a n c := by obtain ⟨a, c, e, _⟩ := h.sl; exact ⟨_, _, _, e⟩
  clear SM TB RR h hok hs hr
  go_enter Tryz.func3, Tryz.ntmps3
  go_wp2_with fail
  refine (HAL.out).mono ?_
  rintro e w1 ⟨rfl, hb⟩
  have Hw1 := Lib.hid hb
  clear hb
  go_wp2_with fail
  refine (HSM.out w1 Hw1.out).mono ?_
  rintro e w2 ⟨rfl, hb⟩
  have Hw2 := Lib.hid (Hw1.out.trans (hb.mono Hw1.out.size))
  clear hb
  go_wp2_with fail
  refine (HSE.out w2 Hw2.out).mono ?_
  rintro e w3 ⟨rfl, hb⟩
  have Hw3 := Lib.hid (Hw2.out.trans (hb.mono Hw2.out.size))
  clear hb
  go_wp2_with fail
  refine (HRR.out w3 Hw3.out).mono ?_
  rintro e w4 ⟨rfl, hb⟩
  have Hw4 := Lib.hid (Hw3.out.trans (hb.mono Hw3.out.size))
  clear hb
  go_wp2_with fail
  go_ret
  exact ⟨rfl, Hw4.out⟩
set_option maxRecDepth 100000 in
set_option maxHeartbeats 8000000 in
theorem seenL_off {w : World} (v : Value) (t : List NodeD) (p c : Int) (h : TreeR w v t) (hok : TreeOk t) (hs : smallT t = true) (hr : rightT t = true) (hp : p < 0 ∨ (t.length : Int) ≤ p) :
    Calls Tryz.prog 3 #[v, .int .i64 p, .int .i64 c] w fun e w' => e = .returned (.bool true) ∧ Below w.heap.size w w' := by
  have HAL := Lib.hid (alive18 w)
  have SM := fun (W : World) (hw : Below w.heap.size w W) => tsmall_any v t W (h.below hw (Nat.le_refl _))
  have TB := fun (W : World) (hw : Below w.heap.size w W) => h.below hw (Nat.le_refl _)
  rw [hs] at SM
  have HSM := Lib.hid SM
  have RR := fun (W : World) (hw : Below w.heap.size w W) => rtright_any _ t W (TB W hw) hs hok
  rw [hr] at RR
  have HRR := Lib.hid RR
  have HSE := Lib.hid (fun (W : World) (hw : Below w.heap.size w W) => hseen_off v t p c W (TB W hw) hs hok hr hp)
  obtain ⟨a, c', rfl, hc, hc2⟩ := h.sl
  obtain ⟨n, hn⟩ : ∃ n, n = t.length := ⟨_, rfl⟩
  rw [← hn] at HSM HRR HSE hp hc ⊢
  clear SM TB RR h hok hs hr hn
  by_cases h0 : p < 0
  · have h0' : decide (p < 0) = true := decide_eq_true h0
    clear hp
    go_enter Tryz.func3, Tryz.ntmps3
    go_wp2_with fail
    refine (HAL.out).mono ?_
    rintro e w1 ⟨rfl, hb⟩
    have Hw1 := Lib.hid hb
    clear hb
    go_wp2_with fail
    refine (HSM.out w1 Hw1.out).mono ?_
    rintro e w2 ⟨rfl, hb⟩
    have Hw2 := Lib.hid (Hw1.out.trans (hb.mono Hw1.out.size))
    clear hb
    go_wp2_with fail
    refine (HSE.out w2 Hw2.out).mono ?_
    rintro e w3 ⟨rfl, hb⟩
    have Hw3 := Lib.hid (Hw2.out.trans (hb.mono Hw2.out.size))
    clear hb
    go_wp2_with fail
    refine (HRR.out w3 Hw3.out).mono ?_
    rintro e w4 ⟨rfl, hb⟩
    have Hw4 := Lib.hid (Hw3.out.trans (hb.mono Hw3.out.size))
    clear hb
    go_wp2_with fail
    go_ret
    exact ⟨rfl, Hw4.out⟩
  · have h0' : decide (p < 0) = false := decide_eq_false h0
    have h1' : decide (p ≥ (n : Int)) = true := decide_eq_true (by omega)
    have h2' : decide ((n : Int) ≤ p) = true := decide_eq_true (by omega)
    clear hp
    go_enter Tryz.func3, Tryz.ntmps3
    go_wp2_with fail
    refine (HAL.out).mono ?_
    rintro e w1 ⟨rfl, hb⟩
    have Hw1 := Lib.hid hb
    clear hb
    go_wp2_with fail
    refine (HSM.out w1 Hw1.out).mono ?_
    rintro e w2 ⟨rfl, hb⟩
    have Hw2 := Lib.hid (Hw1.out.trans (hb.mono Hw1.out.size))
    clear hb
    go_wp2_with fail
    refine (HSE.out w2 Hw2.out).mono ?_
    rintro e w3 ⟨rfl, hb⟩
    have Hw3 := Lib.hid (Hw2.out.trans (hb.mono Hw2.out.size))
    clear hb
    go_wp2_with fail
    refine (HRR.out w3 Hw3.out).mono ?_
    rintro e w4 ⟨rfl, hb⟩
    have Hw4 := Lib.hid (Hw3.out.trans (hb.mono Hw3.out.size))
    clear hb
    go_wp2_with fail
    go_ret
    exact ⟨rfl, Hw4.out⟩
set_option maxRecDepth 100000 in
set_option maxHeartbeats 8000000 in
theorem seenL_kind {w : World} (v : Value) (t : List NodeD) (p : Nat) (c : Int) (h : TreeR w v t) (hok : TreeOk t) (hs : smallT t = true) (hr : rightT t = true) (hpn : p < t.length) (hk : (nd t p).kind ≠ 2) :
    Calls Tryz.prog 3 #[v, .int .i64 (p : Nat), .int .i64 c] w fun e w' => e = .returned (.bool true) ∧ Below w.heap.size w w' := by
  have HAL := Lib.hid (alive18 w)
  have SM := fun (W : World) (hw : Below w.heap.size w W) => tsmall_any v t W (h.below hw (Nat.le_refl _))
  have TB := fun (W : World) (hw : Below w.heap.size w W) => h.below hw (Nat.le_refl _)
  rw [hs] at SM
  have HSM := Lib.hid SM
  have RR := fun (W : World) (hw : Below w.heap.size w W) => rtright_any _ t W (TB W hw) hs hok
  rw [hr] at RR
  have HRR := Lib.hid RR
  have HSE := Lib.hid (fun (W : World) (hw : Below w.heap.size w W) => hseen_kind v t p c W (TB W hw) hs hok hr hpn hk)
  obtain ⟨ta, n0, rfl, hc, hc2⟩ := h.sl
  obtain ⟨b, off, l1, e1, rfl, hbl, ck, -, -⟩ := h.at hpn
  have HCK := Lib.hid ck
  obtain ⟨kd, hkd⟩ : ∃ k, k = (nd t p).kind := ⟨_, rfl⟩
  rw [← hkd] at HCK hk
  have hq : ((kd : Int) != 2) = true := by rw [bne_iff_ne]; omega
  obtain ⟨n, hn⟩ : ∃ n, n = t.length := ⟨_, rfl⟩
  rw [← hn] at HSM HRR HSE hpn hc ⊢
  have h0' : decide ((p : Int) < 0) = false := decide_eq_false (by omega)
  have h1' : decide ((p : Int) ≥ (n : Int)) = false := decide_eq_false (by omega)
  have h2' : decide ((n : Int) ≤ (p : Int)) = false := decide_eq_false (by omega)
  have hpI : (p : Int) < (n : Int) := by omega
  clear SM TB RR h hok hs hr hn hkd ck hk
  go_enter Tryz.func3, Tryz.ntmps3
  go_wp2_with fail
  refine (HAL.out).mono ?_
  rintro e w1 ⟨rfl, hb⟩
  have Hw1 := Lib.hid hb
  clear hb
  go_wp2_with fail
  refine (HSM.out w1 Hw1.out).mono ?_
  rintro e w2 ⟨rfl, hb⟩
  have Hw2 := Lib.hid (Hw1.out.trans (hb.mono Hw1.out.size))
  clear hb
  go_wp2_with fail
  refine (HSE.out w2 Hw2.out).mono ?_
  rintro e w3 ⟨rfl, hb⟩
  have Hw3 := Lib.hid (Hw2.out.trans (hb.mono Hw2.out.size))
  clear hb
  go_wp2_with fail
  refine (HRR.out w3 Hw3.out).mono ?_
  rintro e w4 ⟨rfl, hb⟩
  have Hw4 := Lib.hid (Hw3.out.trans (hb.mono Hw3.out.size))
  clear hb
  have ck4 := (Hw4.out.cell (p := ⟨b, off + p * 10, none⟩) hbl).trans HCK.out
  go_wp2_with fail
  go_ret
  exact ⟨rfl, Hw4.out⟩
set_option maxRecDepth 100000 in
set_option maxHeartbeats 8000000 in
theorem seenL_arg {w : World} (v : Value) (t : List NodeD) (p l r : Nat) (c : Int) (h : TreeR w v t) (hok : TreeOk t) (hs : smallT t = true) (hr : rightT t = true) (hpn : p < t.length) (hk : (nd t p).kind = 2) (hl : leftZ (p : Int) = (l : Int)) (hrr : rightZ (p : Int) = (r : Int)) (hcl : c ≠ (l : Int)) (hcr : c ≠ (r : Int)) :
    Calls Tryz.prog 3 #[v, .int .i64 (p : Nat), .int .i64 c] w fun e w' => e = .returned (.bool true) ∧ Below w.heap.size w w' := by
  have HAL := Lib.hid (alive18 w)
  have SM := fun (W : World) (hw : Below w.heap.size w W) => tsmall_any v t W (h.below hw (Nat.le_refl _))
  have TB := fun (W : World) (hw : Below w.heap.size w W) => h.below hw (Nat.le_refl _)
  rw [hs] at SM
  have HSM := Lib.hid SM
  have RR := fun (W : World) (hw : Below w.heap.size w W) => rtright_any _ t W (TB W hw) hs hok
  rw [hr] at RR
  have HRR := Lib.hid RR
  have HSE := Lib.hid (fun (W : World) (hw : Below w.heap.size w W) => (show Calls Tryz.prog 8 #[v, .int .i64 (p : Nat), .int .i64 c] W fun e w' => e = .returned (.tuple #[.slice none 0 0, .int .u8 1]) ∧ Below W.heap.size W w' from by
    by_cases h0 : c < 0
    · exact hseen_neg v t p l r c W (TB W hw) hs hok hr hpn hk hl hrr h0
    · exact hseen_arg v t p l r c W (TB W hw) hs hok hr hpn hk hl hrr (by omega) hcl hcr))
  obtain ⟨ta, n0, rfl, hc, hc2⟩ := h.sl
  obtain ⟨b, off, l1, e1, rfl, hbl, ck, -, -⟩ := h.at hpn
  have HCK := Lib.hid ck
  rw [hk] at HCK
  have KD := fun (W : World) => kids_any (p : Int) W
  rw [hl, hrr] at KD
  have HKD := Lib.hid KD
  have hc1 : (c != (l : Int)) = true := bne_iff_ne.2 hcl
  have hc2' : (c != (r : Int)) = true := bne_iff_ne.2 hcr
  obtain ⟨n, hn⟩ : ∃ n, n = t.length := ⟨_, rfl⟩
  rw [← hn] at HSM HRR HSE hpn hc ⊢
  have h0' : decide ((p : Int) < 0) = false := decide_eq_false (by omega)
  have h1' : decide ((p : Int) ≥ (n : Int)) = false := decide_eq_false (by omega)
  have h2' : decide ((n : Int) ≤ (p : Int)) = false := decide_eq_false (by omega)
  have hpI : (p : Int) < (n : Int) := by omega
  clear SM TB RR KD h hok hs hr hn ck hk hl hrr
  go_enter Tryz.func3, Tryz.ntmps3
  go_wp2_with fail
  refine (HAL.out).mono ?_
  rintro e w1 ⟨rfl, hb⟩
  have Hw1 := Lib.hid hb
  clear hb
  go_wp2_with fail
  refine (HSM.out w1 Hw1.out).mono ?_
  rintro e w2 ⟨rfl, hb⟩
  have Hw2 := Lib.hid (Hw1.out.trans (hb.mono Hw1.out.size))
  clear hb
  go_wp2_with fail
  refine (HSE.out w2 Hw2.out).mono ?_
  rintro e w3 ⟨rfl, hb⟩
  have Hw3 := Lib.hid (Hw2.out.trans (hb.mono Hw2.out.size))
  clear hb
  go_wp2_with fail
  refine (HRR.out w3 Hw3.out).mono ?_
  rintro e w4 ⟨rfl, hb⟩
  have Hw4 := Lib.hid (Hw3.out.trans (hb.mono Hw3.out.size))
  clear hb
  have ck4 := (Hw4.out.cell (p := ⟨b, off + p * 10, none⟩) hbl).trans HCK.out
  go_wp2_with fail
  refine (HKD.out w4).mono ?_
  rintro e w5 ⟨rfl, hb⟩
  have Hw5 := Lib.hid (Hw4.out.trans (hb.mono Hw4.out.size))
  clear hb
  go_wp2_with fail
  go_ret
  exact ⟨rfl, Hw5.out⟩
set_option maxRecDepth 100000 in
set_option maxHeartbeats 8000000 in
theorem seenL_left {w : World} (v : Value) (t : List NodeD) (p l r c0 o : Nat) (h : TreeR w v t) (hok : TreeOk t) (hs : smallT t = true) (hr : rightT t = true) (hpn : p < t.length) (hk : (nd t p).kind = 2) (hl : leftZ (p : Int) = (l : Int)) (hrr : rightZ (p : Int) = (r : Int)) (hlr : l ≠ r) (hcl : c0 = l ∧ o = r) (hon : o < t.length) (hsz : l + r ≤ 1000) :
    Calls Tryz.prog 3 #[v, .int .i64 (p : Nat), .int .i64 (c0 : Nat)] w fun e w' => e = .returned (.bool true) ∧ Below w.heap.size w w' := by
  have HAL := Lib.hid (alive18 w)
  have SM := fun (W : World) (hw : Below w.heap.size w W) => tsmall_any v t W (h.below hw (Nat.le_refl _))
  have TB := fun (W : World) (hw : Below w.heap.size w W) => h.below hw (Nat.le_refl _)
  rw [hs] at SM
  have HSM := Lib.hid SM
  have RR := fun (W : World) (hw : Below w.heap.size w W) => rtright_any _ t W (TB W hw) hs hok
  rw [hr] at RR
  have HRR := Lib.hid RR
  have SE := fun (W : World) (hw : Below w.heap.size w W) => hseen_left v t p l r c0 o W (TB W hw) hs hok hr hpn hk hl hrr hlr (by omega) hon (by omega) hsz
  have RSn := fun (W : World) (hw : Below w.heap.size w W) => rseen_any v t p o W (TB W hw) hs hok hr hpn hon
  have hlt := shaF_lt (seenT t p o)
  have SD := fun (W : World) (u u' : Value) (hu : Rd W u (bvs (shaF (seenT t p o)))) (hu' : Rd W u' (bvs (shaF (seenT t p o)))) => same_dec u u' _ _ W hu hu' hlt hlt true (decide_eq_true rfl)
  obtain ⟨SH, hSH⟩ : ∃ S, S = shaF (seenT t p o) := ⟨_, rfl⟩
  rw [← hSH] at SE RSn SD
  have HSE := Lib.hid SE
  have HRS := Lib.hid RSn
  have HSD := Lib.hid SD
  obtain ⟨ta, n0, rfl, hc, hc2⟩ := h.sl
  obtain ⟨b, off, l1, e1, rfl, hbl, ck, -, -⟩ := h.at hpn
  have HCK := Lib.hid ck
  rw [hk] at HCK
  have KD := fun (W : World) => kids_any (p : Int) W
  rw [hl, hrr] at KD
  have HKD := Lib.hid KD
  have hc1 : ((c0 : Int) != (l : Int)) = false := by rw [bne_eq_false_iff_eq]; omega
  have hc3 : ((c0 : Int) == (l : Int)) = true := by rw [beq_iff_eq]; omega
  obtain ⟨hcl0, rfl⟩ := hcl
  have hcl := hcl0
  obtain ⟨n, hn⟩ : ∃ n, n = t.length := ⟨_, rfl⟩
  rw [← hn] at HSM HRR HSE hpn hc HRS ⊢
  have h0' : decide ((p : Int) < 0) = false := decide_eq_false (by omega)
  have h1' : decide ((p : Int) ≥ (n : Int)) = false := decide_eq_false (by omega)
  have h2' : decide ((n : Int) ≤ (p : Int)) = false := decide_eq_false (by omega)
  have hpI : (p : Int) < (n : Int) := by omega
  clear SM TB RR KD SE RSn SD h hok hs hr hn ck hk hl hrr hSH hlt hon hsz hcl hcl0 hlr
  go_enter Tryz.func3, Tryz.ntmps3
  go_wp2_with fail
  refine (HAL.out).mono ?_
  rintro e w1 ⟨rfl, hb⟩
  have Hw1 := Lib.hid hb
  clear hb
  go_wp2_with fail
  refine (HSM.out w1 Hw1.out).mono ?_
  rintro e w2 ⟨rfl, hb⟩
  have Hw2 := Lib.hid (Hw1.out.trans (hb.mono Hw1.out.size))
  clear hb
  go_wp2_with fail
  refine (HSE.out w2 Hw2.out).mono ?_
  rintro e w3 ⟨u, rfl, hru, hb⟩
  have Hw3 := Lib.hid (Hw2.out.trans (hb.mono Hw2.out.size))
  have HU := Lib.hid hru
  obtain ⟨u1, u2, u3, rfl⟩ := rdS hru
  clear hb hru
  go_wp2_with fail
  refine (HRR.out w3 Hw3.out).mono ?_
  rintro e w4 ⟨rfl, hb⟩
  have Hw4 := Lib.hid (Hw3.out.trans (hb.mono Hw3.out.size))
  have HU4 := Lib.hid (HU.out.below hb (Nat.le_refl _))
  clear hb
  have ck4 := (Hw4.out.cell (p := ⟨b, off + p * 10, none⟩) hbl).trans HCK.out
  go_wp2_with fail
  refine (HKD.out w4).mono ?_
  rintro e w5 ⟨rfl, hb⟩
  have Hw5 := Lib.hid (Hw4.out.trans (hb.mono Hw4.out.size))
  have HU5 := Lib.hid (HU4.out.below hb (Nat.le_refl _))
  clear hb
  go_wp2_with fail
  refine (HRS.out w5 Hw5.out).mono ?_
  rintro e w6 ⟨u', rfl, hown, hb⟩
  have Hw6 := Lib.hid (Hw5.out.trans (hb.mono Hw5.out.size))
  have HU6 := Lib.hid (HU5.out.below hb (Nat.le_refl _))
  have HR6 := Lib.hid hown.rd
  clear hb hown
  go_wp2_with fail
  refine (HSD.out w6 _ _ HU6.out HR6.out).mono ?_
  rintro e w7 ⟨rfl, n7, rfl⟩
  have hb := below_drewN' (Below.refl w6.heap.size w6) n7
  have Hw7 := Lib.hid (Hw6.out.trans (hb.mono Hw6.out.size))
  clear hb
  go_wp2_with fail
  go_ret
  exact ⟨rfl, Hw7.out⟩
set_option maxRecDepth 100000 in
set_option maxHeartbeats 8000000 in
theorem seenL_right {w : World} (v : Value) (t : List NodeD) (p l r c0 o : Nat) (h : TreeR w v t) (hok : TreeOk t) (hs : smallT t = true) (hr : rightT t = true) (hpn : p < t.length) (hk : (nd t p).kind = 2) (hl : leftZ (p : Int) = (l : Int)) (hrr : rightZ (p : Int) = (r : Int)) (hlr : l ≠ r) (hcl : c0 = r ∧ o = l) (hon : o < t.length) (hsz : l + r ≤ 1000) :
    Calls Tryz.prog 3 #[v, .int .i64 (p : Nat), .int .i64 (c0 : Nat)] w fun e w' => e = .returned (.bool true) ∧ Below w.heap.size w w' := by
  have HAL := Lib.hid (alive18 w)
  have SM := fun (W : World) (hw : Below w.heap.size w W) => tsmall_any v t W (h.below hw (Nat.le_refl _))
  have TB := fun (W : World) (hw : Below w.heap.size w W) => h.below hw (Nat.le_refl _)
  rw [hs] at SM
  have HSM := Lib.hid SM
  have RR := fun (W : World) (hw : Below w.heap.size w W) => rtright_any _ t W (TB W hw) hs hok
  rw [hr] at RR
  have HRR := Lib.hid RR
  have SE := fun (W : World) (hw : Below w.heap.size w W) => hseen_right v t p l r c0 o W (TB W hw) hs hok hr hpn hk hl hrr hlr (by omega) hon (by omega) hsz
  have RSn := fun (W : World) (hw : Below w.heap.size w W) => rseen_any v t p o W (TB W hw) hs hok hr hpn hon
  have hlt := shaF_lt (seenT t p o)
  have SD := fun (W : World) (u u' : Value) (hu : Rd W u (bvs (shaF (seenT t p o)))) (hu' : Rd W u' (bvs (shaF (seenT t p o)))) => same_dec u u' _ _ W hu hu' hlt hlt true (decide_eq_true rfl)
  obtain ⟨SH, hSH⟩ : ∃ S, S = shaF (seenT t p o) := ⟨_, rfl⟩
  rw [← hSH] at SE RSn SD
  have HSE := Lib.hid SE
  have HRS := Lib.hid RSn
  have HSD := Lib.hid SD
  obtain ⟨ta, n0, rfl, hc, hc2⟩ := h.sl
  obtain ⟨b, off, l1, e1, rfl, hbl, ck, -, -⟩ := h.at hpn
  have HCK := Lib.hid ck
  rw [hk] at HCK
  have KD := fun (W : World) => kids_any (p : Int) W
  rw [hl, hrr] at KD
  have HKD := Lib.hid KD
  have hc1 : ((c0 : Int) != (l : Int)) = true := by rw [bne_iff_ne]; omega
  have hc2' : ((c0 : Int) != (r : Int)) = false := by rw [bne_eq_false_iff_eq]; omega
  have hc3 : ((c0 : Int) == (l : Int)) = false := by rw [beq_eq_false_iff_ne]; omega
  obtain ⟨hcl0, rfl⟩ := hcl
  have hcl := hcl0
  obtain ⟨n, hn⟩ : ∃ n, n = t.length := ⟨_, rfl⟩
  rw [← hn] at HSM HRR HSE hpn hc HRS ⊢
  have h0' : decide ((p : Int) < 0) = false := decide_eq_false (by omega)
  have h1' : decide ((p : Int) ≥ (n : Int)) = false := decide_eq_false (by omega)
  have h2' : decide ((n : Int) ≤ (p : Int)) = false := decide_eq_false (by omega)
  have hpI : (p : Int) < (n : Int) := by omega
  clear SM TB RR KD SE RSn SD h hok hs hr hn ck hk hl hrr hSH hlt hon hsz hcl hcl0 hlr
  go_enter Tryz.func3, Tryz.ntmps3
  go_wp2_with fail
  refine (HAL.out).mono ?_
  rintro e w1 ⟨rfl, hb⟩
  have Hw1 := Lib.hid hb
  clear hb
  go_wp2_with fail
  refine (HSM.out w1 Hw1.out).mono ?_
  rintro e w2 ⟨rfl, hb⟩
  have Hw2 := Lib.hid (Hw1.out.trans (hb.mono Hw1.out.size))
  clear hb
  go_wp2_with fail
  refine (HSE.out w2 Hw2.out).mono ?_
  rintro e w3 ⟨u, rfl, hru, hb⟩
  have Hw3 := Lib.hid (Hw2.out.trans (hb.mono Hw2.out.size))
  have HU := Lib.hid hru
  obtain ⟨u1, u2, u3, rfl⟩ := rdS hru
  clear hb hru
  go_wp2_with fail
  refine (HRR.out w3 Hw3.out).mono ?_
  rintro e w4 ⟨rfl, hb⟩
  have Hw4 := Lib.hid (Hw3.out.trans (hb.mono Hw3.out.size))
  have HU4 := Lib.hid (HU.out.below hb (Nat.le_refl _))
  clear hb
  have ck4 := (Hw4.out.cell (p := ⟨b, off + p * 10, none⟩) hbl).trans HCK.out
  go_wp2_with fail
  refine (HKD.out w4).mono ?_
  rintro e w5 ⟨rfl, hb⟩
  have Hw5 := Lib.hid (Hw4.out.trans (hb.mono Hw4.out.size))
  have HU5 := Lib.hid (HU4.out.below hb (Nat.le_refl _))
  clear hb
  go_wp2_with fail
  refine (HRS.out w5 Hw5.out).mono ?_
  rintro e w6 ⟨u', rfl, hown, hb⟩
  have Hw6 := Lib.hid (Hw5.out.trans (hb.mono Hw5.out.size))
  have HU6 := Lib.hid (HU5.out.below hb (Nat.le_refl _))
  have HR6 := Lib.hid hown.rd
  clear hb hown
  go_wp2_with fail
  refine (HSD.out w6 _ _ HU6.out HR6.out).mono ?_
  rintro e w7 ⟨rfl, n7, rfl⟩
  have hb := below_drewN' (Below.refl w6.heap.size w6) n7
  have Hw7 := Lib.hid (Hw6.out.trans (hb.mono Hw6.out.size))
  clear hb
  go_wp2_with fail
  go_ret
  exact ⟨rfl, Hw7.out⟩
theorem hashSeen_walk {w : World} (v : Value) (t : List NodeD) (p c : Int) (hop : TreeR w v t ∧ TreeOk t) (hpb : -9223372036854775808 ≤ p ∧ p ≤ 9223372036854775807) (hcb : -9223372036854775808 ≤ c ∧ c ≤ 9223372036854775807) :
    Calls Tryz.prog 3 #[v, .int .i64 p, .int .i64 c] w fun e w' => e = .returned (.bool true) ∧ Below w.heap.size w w' := by
  obtain ⟨h, hok⟩ := hop
  cases hs : smallT t with
  | false => exact seenL_small v t p c h hok hs
  | true =>
    cases hr : rightT t with
    | false => exact seenL_no v t p c h hok hs hr
    | true =>
      by_cases hp : p < 0 ∨ (t.length : Int) ≤ p
      · exact seenL_off v t p c h hok hs hr hp
      · obtain ⟨p, rfl⟩ : ∃ y : Nat, p = (y : Int) := ⟨p.toNat, by omega⟩
        have hpn : p < t.length := by omega
        by_cases hk : (nd t p).kind = 2
        · obtain ⟨l, r, hl, hrr, hln, hrn, hlr, hsz⟩ := par_kids hs hr hpn hk
          by_cases h1 : c = (l : Int)
          · rw [h1]; exact seenL_left v t p l r l r h hok hs hr hpn hk hl hrr hlr ⟨rfl, rfl⟩ hrn hsz
          · by_cases h2 : c = (r : Int)
            · rw [h2]; exact seenL_right v t p l r r l h hok hs hr hpn hk hl hrr hlr ⟨rfl, rfl⟩ hln hsz
            · exact seenL_arg v t p l r c h hok hs hr hpn hk hl hrr h1 h2
        · exact seenL_kind v t p c h hok hs hr hpn hk
end Go.Proofs.YtohldijomcljkaaGreat
