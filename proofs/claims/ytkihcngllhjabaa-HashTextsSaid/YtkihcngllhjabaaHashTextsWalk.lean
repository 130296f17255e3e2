/- Walks: HashTexts, joined. -/
import Derived.Test.YtkihcngllhjabaaHtA
import Derived.Test.YtkihcngllhjabaaHtB
import Derived.Test.YtkihcngllhjabaaHtC
import Derived.Test.YtkihcngllhjabaaHtD
import Derived.Test.YtkihcngllhjabaaHtE
import Derived.Test.YtkihcngllhjabaaHtF
namespace Go.Proofs.Ytkihcngllhjabaa
open Go.RowKit WireM
set_option linter.unusedVariables false
theorem small_b (d : NodeD) (c : Array Value) (w W : World) (h : NodeC w d c) (b : Bool) (hs : smallB d = b) :
    Calls Try.prog 34 #[.agg c] W fun e w' => e = .returned (.bool b) ∧ Below W.heap.size W w' := by
  obtain ⟨a1, c1, a2, c2, a3, c3, a4, c4, a5, c5, b1, e1, b2, e2, b3, e3, rfl, -⟩ := h
  have := small_any a1 a2 a3 a4 a5 b1 b2 b3 d.kind d.leaf.source d.leaf.box.length d.leaf.sign.length d.leaf.ident.length d.leaf.par.length d.leaf.sig.length d.par.box.length d.par.hash.length d.par.late.length c1 c2 c3 c4 c5 e1 e2 e3 W
  have e : smB d.leaf.box.length d.leaf.sign.length d.leaf.ident.length d.leaf.par.length d.leaf.sig.length d.par.box.length d.par.hash.length d.par.late.length = b := hs
  rw [e] at this
  exact this
set_option maxRecDepth 100000 in
set_option maxHeartbeats 4000000 in
theorem ht_f1 (i : Int) (d : NodeD) (c : Array Value) (vl vr : Value) (l r : List Nat) (w : World) (h : NodeC w d c) (hl : Rd w vl (bvs l)) (hr : Rd w vr (bvs r))
    (hs : smallB d = false) :
    Calls Try.prog 6 #[.int .i64 i, .agg c, vl, vr] w fun e w' => e = .returned (.bool true) ∧ Below w.heap.size w w' := by
  have SM := fun W => small_b d c w W h false hs
  obtain ⟨a1, c1, a2, c2, a3, c3, a4, c4, a5, c5, b1, e1, b2, e2, b3, e3, rfl, -⟩ := h
  obtain ⟨al, cl, rfl, -⟩ := hl
  obtain ⟨ar, cr, rfl, -⟩ := hr
  simp only [bvs_len] at ⊢
  obtain ⟨m1, hm1⟩ : ∃ b, b = d.leaf.box.length := ⟨_, rfl⟩
  obtain ⟨m2, hm2⟩ : ∃ b, b = d.leaf.sign.length := ⟨_, rfl⟩
  obtain ⟨m3, hm3⟩ : ∃ b, b = d.leaf.ident.length := ⟨_, rfl⟩
  obtain ⟨m4, hm4⟩ : ∃ b, b = d.leaf.par.length := ⟨_, rfl⟩
  obtain ⟨m5, hm5⟩ : ∃ b, b = d.leaf.sig.length := ⟨_, rfl⟩
  obtain ⟨m6, hm6⟩ : ∃ b, b = d.par.box.length := ⟨_, rfl⟩
  obtain ⟨m7, hm7⟩ : ∃ b, b = d.par.hash.length := ⟨_, rfl⟩
  obtain ⟨m8, hm8⟩ : ∃ b, b = d.par.late.length := ⟨_, rfl⟩
  obtain ⟨kd, hkd⟩ : ∃ b, b = d.kind := ⟨_, rfl⟩
  obtain ⟨src, hsrc⟩ : ∃ b, b = d.leaf.source := ⟨_, rfl⟩
  obtain ⟨nl, hnnl⟩ : ∃ b, b = l.length := ⟨_, rfl⟩
  obtain ⟨nr, hnnr⟩ : ∃ b, b = r.length := ⟨_, rfl⟩
  simp only [← hm1, ← hm2, ← hm3, ← hm4, ← hm5, ← hm6, ← hm7, ← hm8, ← hkd, ← hsrc, ← hnnl, ← hnnr] at SM ⊢
  have HB0 := Lib.hid ((Below.refl w.heap.size w).alloc (Nat.le_refl _) (.cells #[.int .u8 (kd : Nat), .slice a1 m1 c1, .slice a2 m2 c2, .slice a3 m3 c3, .int .u8 (src : Nat), .slice a4 m4 c4, .slice a5 m5 c5, .slice b1 m6 e1, .slice b2 m7 e2, .slice b3 m8 e3] 57))
  have HSM := Lib.hid SM
  have HAL := Lib.hid (fun W => alive18 W)
  clear hm1 hm2 hm3 hm4 hm5 hm6 hm7 hm8 hkd hsrc hnnl hnnr hs SM
  go_enter Try.func6, Try.ntmps6
  go_wp2_with fail
  refine (HAL.out _).mono ?_
  rintro e w1 ⟨rfl, hb1⟩
  have HA1 := Lib.hid hb1
  have HB1 := Lib.hid (Below.next HB0.out HA1.out)
  have hc1 := bcell HA1.out
  have hg1 : w.heap.size < w1.heap.size := by have := HA1.out.size; simp at this; omega
  clear hb1
  go_wp2_with fail
  refine (HSM.out _).mono ?_
  rintro e w2 ⟨rfl, hb2⟩
  have HB2 := Lib.hid (Below.next HB1.out hb2)
  clear hb2 hc1
  go_wp2_with fail
  go_ret
  exact ⟨rfl, HB2.out⟩
set_option maxRecDepth 100000 in
set_option maxHeartbeats 4000000 in
theorem ht_f2 (i : Int) (d : NodeD) (c : Array Value) (vl vr : Value) (l r : List Nat) (w : World) (h : NodeC w d c) (hl : Rd w vl (bvs l)) (hr : Rd w vr (bvs r))
    (hs : smallB d = true) (hl1 : 100 < l.length) :
    Calls Try.prog 6 #[.int .i64 i, .agg c, vl, vr] w fun e w' => e = .returned (.bool true) ∧ Below w.heap.size w w' := by
  have SM := fun W => small_b d c w W h true hs
  obtain ⟨a1, c1, a2, c2, a3, c3, a4, c4, a5, c5, b1, e1, b2, e2, b3, e3, rfl, -⟩ := h
  obtain ⟨al, cl, rfl, -⟩ := hl
  obtain ⟨ar, cr, rfl, -⟩ := hr
  simp only [bvs_len] at ⊢
  obtain ⟨m1, hm1⟩ : ∃ b, b = d.leaf.box.length := ⟨_, rfl⟩
  obtain ⟨m2, hm2⟩ : ∃ b, b = d.leaf.sign.length := ⟨_, rfl⟩
  obtain ⟨m3, hm3⟩ : ∃ b, b = d.leaf.ident.length := ⟨_, rfl⟩
  obtain ⟨m4, hm4⟩ : ∃ b, b = d.leaf.par.length := ⟨_, rfl⟩
  obtain ⟨m5, hm5⟩ : ∃ b, b = d.leaf.sig.length := ⟨_, rfl⟩
  obtain ⟨m6, hm6⟩ : ∃ b, b = d.par.box.length := ⟨_, rfl⟩
  obtain ⟨m7, hm7⟩ : ∃ b, b = d.par.hash.length := ⟨_, rfl⟩
  obtain ⟨m8, hm8⟩ : ∃ b, b = d.par.late.length := ⟨_, rfl⟩
  obtain ⟨kd, hkd⟩ : ∃ b, b = d.kind := ⟨_, rfl⟩
  obtain ⟨src, hsrc⟩ : ∃ b, b = d.leaf.source := ⟨_, rfl⟩
  obtain ⟨nl, hnnl⟩ : ∃ b, b = l.length := ⟨_, rfl⟩
  obtain ⟨nr, hnnr⟩ : ∃ b, b = r.length := ⟨_, rfl⟩
  simp only [← hm1, ← hm2, ← hm3, ← hm4, ← hm5, ← hm6, ← hm7, ← hm8, ← hkd, ← hsrc, ← hnnl, ← hnnr] at SM hl1 ⊢
  have HB0 := Lib.hid ((Below.refl w.heap.size w).alloc (Nat.le_refl _) (.cells #[.int .u8 (kd : Nat), .slice a1 m1 c1, .slice a2 m2 c2, .slice a3 m3 c3, .int .u8 (src : Nat), .slice a4 m4 c4, .slice a5 m5 c5, .slice b1 m6 e1, .slice b2 m7 e2, .slice b3 m8 e3] 57))
  have HSM := Lib.hid SM
  have HAL := Lib.hid (fun W => alive18 W)
  have g1 : decide ((100 : Int) < (nl : Int)) = true := by rw [decide_eq_true_iff]; omega
  have g3 : decide (100 < nl) = true := by rw [decide_eq_true_iff]; omega
  clear hm1 hm2 hm3 hm4 hm5 hm6 hm7 hm8 hkd hsrc hnnl hnnr hs SM
  go_enter Try.func6, Try.ntmps6
  go_wp2_with fail
  refine (HAL.out _).mono ?_
  rintro e w1 ⟨rfl, hb1⟩
  have HA1 := Lib.hid hb1
  have HB1 := Lib.hid (Below.next HB0.out HA1.out)
  have hc1 := bcell HA1.out
  have hg1 : w.heap.size < w1.heap.size := by have := HA1.out.size; simp at this; omega
  clear hb1
  go_wp2_with fail
  refine (HSM.out _).mono ?_
  rintro e w2 ⟨rfl, hb2⟩
  have HB2 := Lib.hid (Below.next HB1.out hb2)
  clear hb2 hc1
  go_wp2_with fail
  go_ret
  exact ⟨rfl, HB2.out⟩
set_option maxRecDepth 100000 in
set_option maxHeartbeats 4000000 in
theorem ht_f3 (i : Int) (d : NodeD) (c : Array Value) (vl vr : Value) (l r : List Nat) (w : World) (h : NodeC w d c) (hl : Rd w vl (bvs l)) (hr : Rd w vr (bvs r))
    (hs : smallB d = true) (hl1 : l.length ≤ 100) (hr1 : 100 < r.length) :
    Calls Try.prog 6 #[.int .i64 i, .agg c, vl, vr] w fun e w' => e = .returned (.bool true) ∧ Below w.heap.size w w' := by
  have SM := fun W => small_b d c w W h true hs
  obtain ⟨a1, c1, a2, c2, a3, c3, a4, c4, a5, c5, b1, e1, b2, e2, b3, e3, rfl, -⟩ := h
  obtain ⟨al, cl, rfl, -⟩ := hl
  obtain ⟨ar, cr, rfl, -⟩ := hr
  simp only [bvs_len] at ⊢
  obtain ⟨m1, hm1⟩ : ∃ b, b = d.leaf.box.length := ⟨_, rfl⟩
  obtain ⟨m2, hm2⟩ : ∃ b, b = d.leaf.sign.length := ⟨_, rfl⟩
  obtain ⟨m3, hm3⟩ : ∃ b, b = d.leaf.ident.length := ⟨_, rfl⟩
  obtain ⟨m4, hm4⟩ : ∃ b, b = d.leaf.par.length := ⟨_, rfl⟩
  obtain ⟨m5, hm5⟩ : ∃ b, b = d.leaf.sig.length := ⟨_, rfl⟩
  obtain ⟨m6, hm6⟩ : ∃ b, b = d.par.box.length := ⟨_, rfl⟩
  obtain ⟨m7, hm7⟩ : ∃ b, b = d.par.hash.length := ⟨_, rfl⟩
  obtain ⟨m8, hm8⟩ : ∃ b, b = d.par.late.length := ⟨_, rfl⟩
  obtain ⟨kd, hkd⟩ : ∃ b, b = d.kind := ⟨_, rfl⟩
  obtain ⟨src, hsrc⟩ : ∃ b, b = d.leaf.source := ⟨_, rfl⟩
  obtain ⟨nl, hnnl⟩ : ∃ b, b = l.length := ⟨_, rfl⟩
  obtain ⟨nr, hnnr⟩ : ∃ b, b = r.length := ⟨_, rfl⟩
  simp only [← hm1, ← hm2, ← hm3, ← hm4, ← hm5, ← hm6, ← hm7, ← hm8, ← hkd, ← hsrc, ← hnnl, ← hnnr] at SM hl1 hr1 ⊢
  have HB0 := Lib.hid ((Below.refl w.heap.size w).alloc (Nat.le_refl _) (.cells #[.int .u8 (kd : Nat), .slice a1 m1 c1, .slice a2 m2 c2, .slice a3 m3 c3, .int .u8 (src : Nat), .slice a4 m4 c4, .slice a5 m5 c5, .slice b1 m6 e1, .slice b2 m7 e2, .slice b3 m8 e3] 57))
  have HSM := Lib.hid SM
  have HAL := Lib.hid (fun W => alive18 W)
  have g1 : decide ((100 : Int) < (nl : Int)) = false := by rw [decide_eq_false_iff_not]; omega
  have g3 : decide (100 < nl) = false := by rw [decide_eq_false_iff_not]; omega
  have g2 : decide ((100 : Int) < (nr : Int)) = true := by rw [decide_eq_true_iff]; omega
  have g4 : decide (100 < nr) = true := by rw [decide_eq_true_iff]; omega
  clear hm1 hm2 hm3 hm4 hm5 hm6 hm7 hm8 hkd hsrc hnnl hnnr hs SM
  go_enter Try.func6, Try.ntmps6
  go_wp2_with fail
  refine (HAL.out _).mono ?_
  rintro e w1 ⟨rfl, hb1⟩
  have HA1 := Lib.hid hb1
  have HB1 := Lib.hid (Below.next HB0.out HA1.out)
  have hc1 := bcell HA1.out
  have hg1 : w.heap.size < w1.heap.size := by have := HA1.out.size; simp at this; omega
  clear hb1
  go_wp2_with fail
  refine (HSM.out _).mono ?_
  rintro e w2 ⟨rfl, hb2⟩
  have HB2 := Lib.hid (Below.next HB1.out hb2)
  clear hb2 hc1
  go_wp2_with fail
  go_ret
  exact ⟨rfl, HB2.out⟩
theorem hashTexts_walk {w : World} (i : Int) (v1 : Value) (d : NodeD) (v2 : Value) (l : List Nat) (v3 : Value) (r : List Nat) (hi : -9223372036854775808 ≤ i ∧ i ≤ 9223372036854775807) (hn : ∃ c, v1 = .agg c ∧ NodeC w d c ∧ NodeOk d) (hlb : ∀ n ∈ l, n < 256) (hl : Rd w v2 (bvs l)) (hrb : ∀ n ∈ r, n < 256) (hr : Rd w v3 (bvs r)) :
    Calls Try.prog 6 #[.int .i64 i, v1, v2, v3] w fun e w' => e = .returned (.bool true) ∧ Below w.heap.size w w' := by
  obtain ⟨c, rfl, h, hk⟩ := hn
  cases hs : smallB d with
  | false => exact ht_f1 i d c v2 v3 l r w h hl hr hs
  | true =>
    by_cases hl1 : l.length ≤ 100
    · by_cases hr1 : r.length ≤ 100
      · have b1 : ∀ k : Int, ((d.kind : Int) == k) = true ∨ ((d.kind : Int) == k) = false := fun k => by cases ((d.kind : Int) == k) <;> simp
        have b2 : ∀ n : Nat, ((n : Int) != 32) = true ∨ ((n : Int) != 32) = false := fun n => by cases ((n : Int) != 32) <;> simp
        by_cases k0 : i < 0
        · cases hrt : rightB d with
          | false => exact ht_aa i d c v2 v3 l r w h hk hs hl hr hlb hrb hl1 hr1 k0 hrt
          | true =>
            rcases b1 1 with t1 | t1
            · exact ht_ab i d c v2 v3 l r w h hk hs hl hr hlb hrb hl1 hr1 k0 hrt t1
            · rcases b2 l.length with t3 | t3
              · exact ht_ac i d c v2 v3 l r w h hk hs hl hr hlb hrb hl1 hr1 k0 hrt t1 t3
              · rcases b2 r.length with t4 | t4
                · exact ht_ad i d c v2 v3 l r w h hk hs hl hr hlb hrb hl1 hr1 k0 hrt t1 t3 t4
                · exact ht_ae i d c v2 v3 l r w h hk hs hl hr hlb hrb hl1 hr1 k0 hrt t1 t3 t4
        · by_cases k1 : 65535 < i
          · cases hrt : rightB d with
            | false => exact ht_ba i d c v2 v3 l r w h hk hs hl hr hlb hrb hl1 hr1 k0 k1 hrt
            | true =>
              rcases b1 1 with t1 | t1
              · exact ht_bb i d c v2 v3 l r w h hk hs hl hr hlb hrb hl1 hr1 k0 k1 hrt t1
              · rcases b2 l.length with t3 | t3
                · exact ht_bc i d c v2 v3 l r w h hk hs hl hr hlb hrb hl1 hr1 k0 k1 hrt t1 t3
                · rcases b2 r.length with t4 | t4
                  · exact ht_bd i d c v2 v3 l r w h hk hs hl hr hlb hrb hl1 hr1 k0 k1 hrt t1 t3 t4
                  · exact ht_be i d c v2 v3 l r w h hk hs hl hr hlb hrb hl1 hr1 k0 k1 hrt t1 t3 t4
          · have k0 : 0 ≤ i := by omega
            have k1 : i < 65536 := by omega
            cases hrt : rightB d with
            | false => exact ht_ca i d c v2 v3 l r w h hk hs hl hr hlb hrb hl1 hr1 k0 k1 hrt
            | true =>
              rcases b1 2 with t2 | t2
              · have t1 : ((d.kind : Int) == 1) = false := by have := beq_iff_eq.1 t2; rw [beq_eq_false_iff_ne]; omega
                rcases b2 l.length with t3 | t3
                · exact ht_dc i d c v2 v3 l r w h hk hs hl hr hlb hrb hl1 hr1 k0 k1 hrt t1 t2 t3
                · rcases b2 r.length with t4 | t4
                  · exact ht_dd i d c v2 v3 l r w h hk hs hl hr hlb hrb hl1 hr1 k0 k1 hrt t1 t2 t3 t4
                  · exact ht_de i d c v2 v3 l r w h hk hs hl hr hlb hrb hl1 hr1 k0 k1 hrt t1 t2 t3 t4
              · rcases b1 1 with t1 | t1
                · exact ht_eb i d c v2 v3 l r w h hk hs hl hr hlb hrb hl1 hr1 k0 k1 hrt t1 t2
                · rcases b2 l.length with t3 | t3
                  · exact ht_ec i d c v2 v3 l r w h hk hs hl hr hlb hrb hl1 hr1 k0 k1 hrt t1 t2 t3
                  · rcases b2 r.length with t4 | t4
                    · exact ht_ed i d c v2 v3 l r w h hk hs hl hr hlb hrb hl1 hr1 k0 k1 hrt t1 t2 t3 t4
                    · exact ht_ee i d c v2 v3 l r w h hk hs hl hr hlb hrb hl1 hr1 k0 k1 hrt t1 t2 t3 t4
      · exact ht_f3 i d c v2 v3 l r w h hl hr hs hl1 (by omega)
    · exact ht_f2 i d c v2 v3 l r w h hl hr hs (by omega)
end Go.Proofs.Ytkihcngllhjabaa
