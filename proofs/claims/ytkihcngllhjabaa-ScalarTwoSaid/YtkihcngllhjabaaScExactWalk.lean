/- Walks: ScalarExact. -/
import Derived.Test.YtkihcngllhjabaaScIs
import Derived.Test.YtkihcngllhjabaaOnceLive
namespace Go.Proofs.Ytkihcngllhjabaa
open Go.RowKit ScM
set_option linter.unusedVariables false
/-- an operation whose guard does not hold leaves nothing -/
theorem wanted_off {o : Oper} {ops : Array Oper} {tmps : Array Value} {j : Nat} {b : Bool} {oj : Oper} {s : Tmp} {v : Value} (hg : o.guard = some (j, b)) (hj : ops[j]? = some oj) (hs : oj.dst = some s) (hv : tmps[s]?.getD undef = v) (hne : v ≠ .bool b) : Region.wanted o (yielded ops tmps) = false := by
  have hy : yielded ops tmps j ≠ some b := by
    unfold yielded
    rw [hj, Option.bind_some, hs, Option.bind_some]
    cases ht : tmps[s]? with
    | none => simp
    | some x =>
      rw [ht] at hv
      have hx : x = v := hv
      subst hx
      intro h
      cases x <;> simp_all
  unfold Region.wanted
  rw [hg]
  simp [hy]
theorem owed2_off {P : Program} {l : List Oper} {Q : Exit → Act → World → Prop} {sat : List Fact} {st : List Bool} {a0 : Act} {W : World} {i : Nat} {o : Oper} (hs : sat.getD i (fun _ _ => True) = fun v _ => v = undef)
    (h : ∀ (a : Act) (w : World), Below W.heap.size W w → (∀ s, freeAt l i s = true → a.tmps[s]?.getD undef = a0.tmps[s]?.getD undef) → factsOf sat l a w o.after.toList → Region.wanted o (yielded l.toArray a.tmps) = false) : Owed2 P l Q sat st a0 W i o := by
  intro a w hb ho hf K hK
  rw [if_neg (by rw [h a w hb ho hf]; simp)]
  exact hK undef w (by rw [hs]) (Below.refl _ _)
theorem exN_lt (KS : List Nat) : exN KS < L := by
  unfold exN
  split
  · rename_i h; exact h.2
  · decide
set_option maxRecDepth 100000 in
set_option maxHeartbeats 8000000 in
theorem scalarExact_walk {w : World} (v : Value) (KS : List Nat) (hK : ∀ n ∈ KS, n < 256) (h : Rd w v (bvs KS)) :
    Calls Try.prog 3 #[v] w fun e w' => e = .returned (.bool true) ∧ Below w.heap.size w w' := by
  obtain ⟨n, hn⟩ : ∃ n, n = KS.length := ⟨_, rfl⟩
  have hv : ∃ a c, v = .slice a n c := by obtain ⟨a, c, e, _⟩ := h; exact ⟨a, c, by rw [e, bvs_len, hn]⟩
  obtain ⟨ad, cap, rfl⟩ := hv
  have HAL := Lib.hid (salive_any w)
  by_cases h100 : 100 < n
  · have h1 : decide ((100 : Int) < (n : Int)) = true := by rw [decide_eq_true_iff]; omega
    clear h hK hn h100
    go_enter Try.func3, Try.ntmps3
    go_wp2_with fail
    refine (HAL.out).mono ?_
    rintro e w1 ⟨rfl, hb1⟩
    go_wp2_with fail
    go_ret
    exact ⟨rfl, hb1⟩
  · have h1 : decide ((100 : Int) < (n : Int)) = false := by rw [decide_eq_false_iff_not]; omega
    have HRD := Lib.hid h
    have HKB := Lib.hid hK
    have HNK := Lib.hid hn
    have EX := fun (w1 : World) (hb : Below w.heap.size w w1) => sexact_any (.slice ad n cap) KS w1 (h.below hb (Nat.le_refl _)) hK
    have BO := fun (w1 : World) (hb : Below w.heap.size w w1) => bof_any (.slice ad n cap) KS w1 (h.below hb (Nat.le_refl _)) hK (by omega)
    have SO := fun (w1 : World) (hb : Below w.heap.size w w1) => sof_any (.slice ad n cap) KS w1 (h.below hb (Nat.le_refl _)) hK
    obtain ⟨x, hx⟩ : ∃ x, x = exN KS := ⟨_, rfl⟩
    obtain ⟨b, hb⟩ : ∃ b, b = exB KS := ⟨_, rfl⟩
    rw [← hx, ← hb] at EX
    have HEX := Lib.hid EX
    have HBO := Lib.hid BO
    have HSO := Lib.hid SO
    have HX := Lib.hid hx
    have HB := Lib.hid hb
    have hlb : (BigM.big (leV KS)).length < 100000 := by have := leV_big hK (by omega); omega
    have HLB := Lib.hid hlb
    have hxP : x < P256 := by rw [hx]; exact Nat.lt_trans (exN_lt KS) L_lt
    clear EX BO SO h hK hn hx hb h100 hlb
    go_enter Try.func3, Try.ntmps3
    go_wp2_with fail
    refine (HAL.out).mono ?_
    rintro e w1 ⟨rfl, hb1⟩
    have HB1 := Lib.hid hb1
    clear hb1
    go_wp2_with fail
    refine (HEX.out _ HB1.out).mono ?_
    rintro e w2 ⟨rfl, hb2⟩
    have HB2 := Lib.hid (HB1.out.trans (hb2.mono HB1.out.size))
    clear hb2
    go_wp2_with (refine wpList_store_new rfl 27 (.tmp 3) (.tmp 15) rfl w2.heap.size rfl (w4 x) rfl rfl _ _ (by kernel_rfl) rfl (by rw [← Array.all_toList]; rfl) ?_)
    have hkx := Blk.new w2 27 (w4 x)
    have hb3 := HB2.out.alloc HB2.out.size (.cells (w4 x) 27)
    have hg := hkx.lt
    obtain ⟨g, hgg⟩ : ∃ g, g = w2.heap.size := ⟨_, rfl⟩
    rw [← hgg] at hkx hg ⊢
    obtain ⟨w3, hw3⟩ : ∃ w3, w3 = w2.alloc (.cells (w4 x) 27) := ⟨_, rfl⟩
    rw [← hw3] at hkx hg hb3 ⊢
    have KX := Lib.hid hkx
    have HB3 := Lib.hid hb3
    clear hkx hb3 hgg hw3 hg
    refine (HBO.out _ HB3.out).mono ?_
    rintro e w4' ⟨v4, rfl, hown4, hb4⟩
    obtain ⟨t1, t2, t3, rfl⟩ := slOf hown4
    have HO4 := Lib.hid hown4
    have KX4 := Lib.hid (KX.out.below hb4 KX.out.lt)
    have HB4 := Lib.hid (HB3.out.trans (hb4.mono HB3.out.size))
    clear hown4 hb4
    by_cases h32 : n = 32
    · have h2 : ((n : Int) == 32) = true := by rw [beq_iff_eq]; omega
      have HOR := Lib.hid (border_any w4')
      have e0 : b = decide (leV KS < L) := by rw [HB.out, exB, ← HNK.out]; simp [h32]
      have HE0 := Lib.hid e0
      have H32 := Lib.hid h32
      clear h32 e0
      go_wp2_with fail
      refine (HOR.out).mono ?_
      rintro e w5 ⟨v5, rfl, hown5, hb5⟩
      have LS := bless_any (.slice t1 t2 t3) v5 (leV KS) L w5 ((HO4.out.below hb5 (Nat.le_refl _)).rd) hown5.rd
      rw [← HE0.out] at LS
      have HLS := Lib.hid LS
      have KX5 := Lib.hid (KX4.out.below hb5 KX4.out.lt)
      have HB5 := Lib.hid (HB4.out.trans (hb5.mono HB4.out.size))
      clear hown5 hb5 LS
      go_wp2_with fail
      refine (HLS.out).mono ?_
      rintro e wr ⟨rfl, n6, rfl⟩
      have KR := Lib.hid (KX5.out.drewN n6)
      have HBR := Lib.hid (below_drewN' HB5.out n6)
      obtain ⟨wr, hwr⟩ : ∃ wr, wr = w5.drewN n6 := ⟨_, rfl⟩
      rw [← hwr] at KR HBR ⊢
      clear hwr
      cases b with
      | true =>
        have hlt : leV KS < L := of_decide_eq_true HE0.out.symm
        have hxv : x = leV KS := by rw [HX.out, exN, if_pos ⟨by rw [← HNK.out]; exact H32.out, hlt⟩]
        have hbk : leN 32 x = KS := by
          have := leN_leV KS HKB.out
          rw [← HNK.out, H32.out] at this
          rw [hxv]; exact this
        have hof : leV (KS.take 64) % L = x := by
          rw [List.take_of_length_le (by rw [← HNK.out, H32.out]; omega), hxv, Nat.mod_eq_of_lt hlt]
        have BY := fun w => sbytes_any x w
        rw [hbk] at BY
        have SO := HSO.out
        rw [hof] at SO
        have SS := fun w => ssame_any x x w hxP hxP
        rw [decide_eq_true rfl] at SS
        have HBY := Lib.hid BY
        have HS := Lib.hid SO
        have HSS := Lib.hid SS
        clear hlt hxv hbk hof BY SO SS
        go_wp2_with fail
        refine wp_region_live [fun v _ => v = .bool true, fun v _ => v = .bool false, fun v _ => v = .bool false, fun v _ => v = undef, fun v _ => v = undef, fun v _ => v = undef, fun v _ => v = .bool false, fun v _ => v = .bool false, fun v _ => v = .bool true, fun v _ => v = .bool true, fun v _ => v = .agg (w4 x), fun v w' => Own w' wr.heap.size 5 v (bvs KS), fun v _ => v = .slice ad n cap, fun v _ => v = .bool true, fun v _ => v = .bool true, fun v _ => v = .bool true, fun v _ => v = .agg (w4 x), fun v _ => v = .slice ad n cap, fun v _ => v = .agg (w4 x), fun v _ => v = .bool true, fun v _ => v = .bool true, fun v _ => v = .bool true, fun v _ => v = .bool true]
          [false, false, false, false, false, false, false, false, false, false, false, false, false, false, false, false, false, false, false, false, false, false, true] [] [true, true, true, true, true, true, true, true, true, true, true, false, true, true, true, true, true, true, true, true, true, true, true]
          (by kernel_rfl) ?_ (by kernel_rfl) (by kernel_rfl) ?_ (by kernel_rfl) ?_ ?_
        · exact keeps_cons (fun _ _ _ h _ => h) (keeps_cons (fun _ _ _ h _ => h) (keeps_cons (fun _ _ _ h _ => h) (keeps_cons (fun _ _ _ h _ => h) (keeps_cons (fun _ _ _ h _ => h) (keeps_cons (fun _ _ _ h _ => h) (keeps_cons (fun _ _ _ h _ => h) (keeps_cons (fun _ _ _ h _ => h) (keeps_cons (fun _ _ _ h _ => h) (keeps_cons (fun _ _ _ h _ => h) (keeps_cons (fun _ _ _ h _ => h) (keeps_cons (fun v w1 w2 h hb => Own.below h hb (Nat.le_refl _)) (keeps_cons (fun _ _ _ h _ => h) (keeps_cons (fun _ _ _ h _ => h) (keeps_cons (fun _ _ _ h _ => h) (keeps_cons (fun _ _ _ h _ => h) (keeps_cons (fun _ _ _ h _ => h) (keeps_cons (fun _ _ _ h _ => h) (keeps_cons (fun _ _ _ h _ => h) (keeps_cons (fun _ _ _ h _ => h) (keeps_cons (fun _ _ _ h _ => h) (keeps_cons (fun _ _ _ h _ => h) (keeps_cons (fun _ _ _ h _ => h) (keeps_nil)))))))))))))))))))))))
        · exact pures_t (fun _ _ _ h => h) (pures_t (fun _ _ _ h => h) (pures_t (fun _ _ _ h => h) (pures_t (fun _ _ _ h => h) (pures_t (fun _ _ _ h => h) (pures_t (fun _ _ _ h => h) (pures_t (fun _ _ _ h => h) (pures_t (fun _ _ _ h => h) (pures_t (fun _ _ _ h => h) (pures_t (fun _ _ _ h => h) (pures_t (fun _ _ _ h => h) (pures_f (pures_t (fun _ _ _ h => h) (pures_t (fun _ _ _ h => h) (pures_t (fun _ _ _ h => h) (pures_t (fun _ _ _ h => h) (pures_t (fun _ _ _ h => h) (pures_t (fun _ _ _ h => h) (pures_t (fun _ _ _ h => h) (pures_t (fun _ _ _ h => h) (pures_t (fun _ _ _ h => h) (pures_t (fun _ _ _ h => h) (pures_t (fun _ _ _ h => h) (pures_nil)))))))))))))))))))))))
        · refine .cons (owed2_go ?_) (.cons (owed2_go ?_) (.cons (owed2_go ?_) (.cons (owed2_off rfl ?_) (.cons (owed2_off rfl ?_) (.cons (owed2_off rfl ?_) (.cons (owed2_go ?_) (.cons (owed2_go ?_) (.cons (owed2_go ?_) (.cons (owed2_go ?_) (.cons (owed2_go ?_) (.cons (owed2_go ?_) (.cons (owed2_go ?_) (.cons (owed2_go ?_) (.cons (owed2_go ?_) (.cons (owed2_go ?_) (.cons (owed2_go ?_) (.cons (owed2_go ?_) (.cons (owed2_go ?_) (.cons (owed2_go ?_) (.cons (owed2_go ?_) (.cons (owed2_go ?_) (.cons (owed2_go ?_) (.nil)))))))))))))))))))))))
          · intro a wx hbx ho hf
            refine ⟨rfl, ?_⟩
            intro K hK
            have e0 : a.tmps[4]?.getD undef = .bool true := ho 4 (by kernel_rfl)
            go_simp
            exact hK _ _ rfl (Below.refl _ _)
          · intro a wx hbx ho hf
            refine ⟨rfl, ?_⟩
            intro K hK
            have e0 : a.tmps[30]?.getD undef = .bool true := hf.1
            go_simp
            exact hK _ _ rfl (Below.refl _ _)
          · intro a wx hbx ho hf
            refine ⟨rfl, ?_⟩
            intro K hK
            have e0 : a.tmps[31]?.getD undef = .bool false := hf.1
            go_simp
            exact hK _ _ rfl (Below.refl _ _)
          · intro a wx hbx ho hf
            exact wanted_off (j := 2) (b := true) (s := 32) rfl rfl rfl (hf.1) (by first | (simp; done) | (simp [undef]; done) | (intro h; cases h))
          · intro a wx hbx ho hf
            exact wanted_off (j := 2) (b := true) (s := 32) rfl rfl rfl (hf.1) (by first | (simp; done) | (simp [undef]; done) | (intro h; cases h))
          · intro a wx hbx ho hf
            exact wanted_off (j := 2) (b := true) (s := 32) rfl rfl rfl (hf.2.2.1) (by first | (simp; done) | (simp [undef]; done) | (intro h; cases h))
          · intro a wx hbx ho hf
            refine ⟨rfl, ?_⟩
            intro K hK
            have e0 : a.tmps[32]?.getD undef = .bool false := hf.1
            go_simp
            exact hK _ _ rfl (Below.refl _ _)
          · intro a wx hbx ho hf
            refine ⟨rfl, ?_⟩
            intro K hK
            have e0 : a.tmps[36]?.getD undef = .bool false := hf.1
            go_simp
            exact hK _ _ rfl (Below.refl _ _)
          · intro a wx hbx ho hf
            refine ⟨wanted_slot (j := 7) (b := false) (s := 37) rfl rfl rfl (hf.1), ?_⟩
            intro K hK
            have e0 : a.tmps[4]?.getD undef = .bool true := ho 4 (by kernel_rfl)
            go_simp
            exact hK _ _ rfl (Below.refl _ _)
          · intro a wx hbx ho hf
            refine ⟨wanted_slot (j := 7) (b := false) (s := 37) rfl rfl rfl (hf.2.1), ?_⟩
            intro K hK
            have e0 : a.tmps[38]?.getD undef = .bool true := hf.1
            go_simp
            exact hK _ _ rfl (Below.refl _ _)
          · intro a wx hbx ho hf
            refine ⟨wanted_slot (j := 9) (b := true) (s := 39) rfl rfl rfl (hf.1), ?_⟩
            intro K hK
            have e0 : a.tmps[3]?.getD undef = .pointer (some ⟨g, 0, none⟩) := ho 3 (by kernel_rfl)
            exact wp_load_row 27 (.tmp 3) rfl _ (evs e0) _ (w4 x) (0, 0) _ (KR.out.below hbx KR.out.lt) Try.underlying27 rfl (by kernel_rfl) (hK _ _ rfl (Below.refl _ _))
          · intro a wx hbx ho hf
            refine ⟨wanted_slot (j := 9) (b := true) (s := 39) rfl rfl rfl (hf.2.1), ?_⟩
            intro K hK
            have e0 : a.tmps[40]?.getD undef = .agg (w4 x) := hf.1
            go_simp
            refine (HBY.out wx).mono ?_
            rintro e w2 ⟨v2, rfl, hown, hb2⟩
            exact hK _ _ (hown.mono hbx.size) hb2
          · intro a wx hbx ho hf
            refine ⟨wanted_slot (j := 9) (b := true) (s := 39) rfl rfl rfl (hf.1), ?_⟩
            intro K hK
            have e0 : a.tmps[0]?.getD undef = .slice ad n cap := ho 0 (by kernel_rfl)
            go_simp
            exact hK _ _ rfl (Below.refl _ _)
          · intro a wx hbx ho hf
            refine ⟨wanted_slot (j := 9) (b := true) (s := 39) rfl rfl rfl (hf.2.2.2.1), ?_⟩
            intro K hK
            have o0 : Own wx wr.heap.size 5 (a.tmps[41]?.getD undef) (bvs KS) := hf.1
            obtain ⟨v0, hv0⟩ : ∃ v, v = a.tmps[41]?.getD undef := ⟨_, rfl⟩
            rw [← hv0] at o0
            have e0 := hv0.symm
            clear hv0
            have e1 : a.tmps[42]?.getD undef = .slice ad n cap := hf.2.1
            go_simp
            refine ((same_any v0 (.slice ad n cap) KS KS wx o0.rd (HRD.out.below (HBR.out.trans (hbx.mono HBR.out.size)) (Nat.le_refl _)) HKB.out HKB.out)).mono ?_
            rintro e w2 ⟨rfl, n2, rfl⟩
            rw [decide_eq_true rfl]
            exact hK _ _ rfl (below_drewN' (Below.refl _ _) n2)
          · intro a wx hbx ho hf
            refine ⟨wanted_slot (j := 7) (b := false) (s := 37) rfl rfl rfl (hf.2.2.1), ?_⟩
            intro K hK
            have e0 : a.tmps[39]?.getD undef = .bool true := hf.1
            have e1 : a.tmps[43]?.getD undef = .bool true := hf.2.1
            go_simp
            exact hK _ _ rfl (Below.refl _ _)
          · intro a wx hbx ho hf
            refine ⟨wanted_slot (j := 7) (b := false) (s := 37) rfl rfl rfl (hf.2.2.1), ?_⟩
            intro K hK
            have e0 : a.tmps[44]?.getD undef = .bool true := hf.1
            go_simp
            exact hK _ _ rfl (Below.refl _ _)
          · intro a wx hbx ho hf
            refine ⟨wanted_slot (j := 15) (b := true) (s := 45) rfl rfl rfl (hf.1), ?_⟩
            intro K hK
            have e0 : a.tmps[3]?.getD undef = .pointer (some ⟨g, 0, none⟩) := ho 3 (by kernel_rfl)
            exact wp_load_row 27 (.tmp 3) rfl _ (evs e0) _ (w4 x) (0, 0) _ (KR.out.below hbx KR.out.lt) Try.underlying27 rfl (by kernel_rfl) (hK _ _ rfl (Below.refl _ _))
          · intro a wx hbx ho hf
            refine ⟨wanted_slot (j := 15) (b := true) (s := 45) rfl rfl rfl (hf.1), ?_⟩
            intro K hK
            have e0 : a.tmps[0]?.getD undef = .slice ad n cap := ho 0 (by kernel_rfl)
            go_simp
            exact hK _ _ rfl (Below.refl _ _)
          · intro a wx hbx ho hf
            refine ⟨wanted_slot (j := 15) (b := true) (s := 45) rfl rfl rfl (hf.2.1), ?_⟩
            intro K hK
            have e0 : a.tmps[47]?.getD undef = .slice ad n cap := hf.1
            go_simp
            refine (HS.out wx (HBR.out.trans (hbx.mono HBR.out.size))).mono ?_
            rintro e w2 ⟨rfl, hb2⟩
            exact hK _ _ rfl hb2
          · intro a wx hbx ho hf
            refine ⟨wanted_slot (j := 15) (b := true) (s := 45) rfl rfl rfl (hf.2.2.2.1), ?_⟩
            intro K hK
            have e0 : a.tmps[46]?.getD undef = .agg (w4 x) := hf.1
            have e1 : a.tmps[48]?.getD undef = .agg (w4 x) := hf.2.1
            go_simp
            refine (HSS.out wx).mono ?_
            rintro e w2 ⟨rfl, hb2⟩
            exact hK _ _ rfl hb2
          · intro a wx hbx ho hf
            refine ⟨wanted_slot (j := 7) (b := false) (s := 37) rfl rfl rfl (hf.2.2.1), ?_⟩
            intro K hK
            have e0 : a.tmps[45]?.getD undef = .bool true := hf.1
            have e1 : a.tmps[49]?.getD undef = .bool true := hf.2.1
            go_simp
            exact hK _ _ rfl (Below.refl _ _)
          · intro a wx hbx ho hf
            refine ⟨rfl, ?_⟩
            intro K hK
            have e0 : a.tmps[37]?.getD undef = .bool false := hf.1
            have e1 : a.tmps[50]?.getD undef = .bool true := hf.2.1
            go_simp
            exact hK _ _ rfl (Below.refl _ _)
          · intro a wx hbx ho hf
            refine ⟨rfl, ?_⟩
            intro K hK
            have e0 : a.tmps[51]?.getD undef = .bool true := hf.1
            go_simp
            exact hK _ _ rfl (Below.refl _ _)
        · rintro f w9 hb9 hfin
          have hfe : f 2 = .bool true := hfin.2.2.2.2.2.2.2.2.2.2.2.2.2.2.2.2.2.2.2.2.2.2.1
          clear hfin
          simp only [frameOf, dstsOf, zipF, List.filterMap_cons, List.filterMap_nil, List.contains_cons, List.contains_nil, Nat.reduceBEq, Nat.reduceAdd, Bool.or_false, Bool.or_true, cond_true, cond_false]
          rw [hfe]
          go_wp2_with fail
          go_ret
          exact ⟨rfl, HBR.out.trans (hb9.mono HBR.out.size)⟩
      | false =>
        have hge : ¬ leV KS < L := of_decide_eq_false HE0.out.symm
        have hx0 : x = 0 := by rw [HX.out, exN, if_neg (fun h => hge h.2)]
        subst hx0
        have SS := fun w => ssame_any 0 0 w hxP hxP
        have hz0 : w4 0 = #[.int .u64 0, .int .u64 0, .int .u64 0, .int .u64 0] := by kernel_rfl
        rw [decide_eq_true rfl, hz0] at SS
        rw [hz0] at KR
        have HSS := Lib.hid SS
        clear SS hge hz0
        go_wp2_with fail
        refine wp_region_live [fun v _ => v = .bool false, fun v _ => v = .bool true, fun v _ => v = .bool true, fun v _ => v = .agg #[.int .u64 0, .int .u64 0, .int .u64 0, .int .u64 0], fun v _ => v = .agg #[.int .u64 0, .int .u64 0, .int .u64 0, .int .u64 0], fun v _ => v = .bool true, fun v _ => v = .bool true, fun v _ => v = .bool true, fun v _ => v = undef, fun v _ => v = undef, fun v _ => v = undef, fun v _ => v = undef, fun v _ => v = undef, fun v _ => v = undef, fun v _ => v = undef, fun v _ => v = undef, fun v _ => v = undef, fun v _ => v = undef, fun v _ => v = undef, fun v _ => v = undef, fun v _ => v = undef, fun v _ => v = .bool true, fun v _ => v = .bool true]
          [false, false, false, false, false, false, false, false, false, false, false, false, false, false, false, false, false, false, false, false, false, false, true] [] [true, true, true, true, true, true, true, true, true, true, true, true, true, true, true, true, true, true, true, true, true, true, true]
          (by kernel_rfl) ?_ (by kernel_rfl) (by kernel_rfl) ?_ (by kernel_rfl) ?_ ?_
        · exact keeps_cons (fun _ _ _ h _ => h) (keeps_cons (fun _ _ _ h _ => h) (keeps_cons (fun _ _ _ h _ => h) (keeps_cons (fun _ _ _ h _ => h) (keeps_cons (fun _ _ _ h _ => h) (keeps_cons (fun _ _ _ h _ => h) (keeps_cons (fun _ _ _ h _ => h) (keeps_cons (fun _ _ _ h _ => h) (keeps_cons (fun _ _ _ h _ => h) (keeps_cons (fun _ _ _ h _ => h) (keeps_cons (fun _ _ _ h _ => h) (keeps_cons (fun _ _ _ h _ => h) (keeps_cons (fun _ _ _ h _ => h) (keeps_cons (fun _ _ _ h _ => h) (keeps_cons (fun _ _ _ h _ => h) (keeps_cons (fun _ _ _ h _ => h) (keeps_cons (fun _ _ _ h _ => h) (keeps_cons (fun _ _ _ h _ => h) (keeps_cons (fun _ _ _ h _ => h) (keeps_cons (fun _ _ _ h _ => h) (keeps_cons (fun _ _ _ h _ => h) (keeps_cons (fun _ _ _ h _ => h) (keeps_cons (fun _ _ _ h _ => h) (keeps_nil)))))))))))))))))))))))
        · exact pures_t (fun _ _ _ h => h) (pures_t (fun _ _ _ h => h) (pures_t (fun _ _ _ h => h) (pures_t (fun _ _ _ h => h) (pures_t (fun _ _ _ h => h) (pures_t (fun _ _ _ h => h) (pures_t (fun _ _ _ h => h) (pures_t (fun _ _ _ h => h) (pures_t (fun _ _ _ h => h) (pures_t (fun _ _ _ h => h) (pures_t (fun _ _ _ h => h) (pures_t (fun _ _ _ h => h) (pures_t (fun _ _ _ h => h) (pures_t (fun _ _ _ h => h) (pures_t (fun _ _ _ h => h) (pures_t (fun _ _ _ h => h) (pures_t (fun _ _ _ h => h) (pures_t (fun _ _ _ h => h) (pures_t (fun _ _ _ h => h) (pures_t (fun _ _ _ h => h) (pures_t (fun _ _ _ h => h) (pures_t (fun _ _ _ h => h) (pures_t (fun _ _ _ h => h) (pures_nil)))))))))))))))))))))))
        · refine .cons (owed2_go ?_) (.cons (owed2_go ?_) (.cons (owed2_go ?_) (.cons (owed2_go ?_) (.cons (owed2_go ?_) (.cons (owed2_go ?_) (.cons (owed2_go ?_) (.cons (owed2_go ?_) (.cons (owed2_off rfl ?_) (.cons (owed2_off rfl ?_) (.cons (owed2_off rfl ?_) (.cons (owed2_off rfl ?_) (.cons (owed2_off rfl ?_) (.cons (owed2_off rfl ?_) (.cons (owed2_off rfl ?_) (.cons (owed2_off rfl ?_) (.cons (owed2_off rfl ?_) (.cons (owed2_off rfl ?_) (.cons (owed2_off rfl ?_) (.cons (owed2_off rfl ?_) (.cons (owed2_off rfl ?_) (.cons (owed2_go ?_) (.cons (owed2_go ?_) (.nil)))))))))))))))))))))))
          · intro a wx hbx ho hf
            refine ⟨rfl, ?_⟩
            intro K hK
            have e0 : a.tmps[4]?.getD undef = .bool false := ho 4 (by kernel_rfl)
            go_simp
            exact hK _ _ rfl (Below.refl _ _)
          · intro a wx hbx ho hf
            refine ⟨rfl, ?_⟩
            intro K hK
            have e0 : a.tmps[30]?.getD undef = .bool false := hf.1
            go_simp
            exact hK _ _ rfl (Below.refl _ _)
          · intro a wx hbx ho hf
            refine ⟨rfl, ?_⟩
            intro K hK
            have e0 : a.tmps[31]?.getD undef = .bool true := hf.1
            go_simp
            exact hK _ _ rfl (Below.refl _ _)
          · intro a wx hbx ho hf
            refine ⟨wanted_slot (j := 2) (b := true) (s := 32) rfl rfl rfl (hf.1), ?_⟩
            intro K hK
            have e0 : a.tmps[3]?.getD undef = .pointer (some ⟨g, 0, none⟩) := ho 3 (by kernel_rfl)
            exact wp_load_row 27 (.tmp 3) rfl _ (evs e0) _ #[.int .u64 0, .int .u64 0, .int .u64 0, .int .u64 0] (0, 0) _ (KR.out.below hbx KR.out.lt) Try.underlying27 rfl (by kernel_rfl) (hK _ _ rfl (Below.refl _ _))
          · intro a wx hbx ho hf
            refine ⟨wanted_slot (j := 2) (b := true) (s := 32) rfl rfl rfl (hf.1), ?_⟩
            intro K hK
            go_simp
            exact hK _ _ rfl (Below.refl _ _)
          · intro a wx hbx ho hf
            refine ⟨wanted_slot (j := 2) (b := true) (s := 32) rfl rfl rfl (hf.2.2.1), ?_⟩
            intro K hK
            have e0 : a.tmps[33]?.getD undef = .agg #[.int .u64 0, .int .u64 0, .int .u64 0, .int .u64 0] := hf.1
            have e1 : a.tmps[34]?.getD undef = .agg #[.int .u64 0, .int .u64 0, .int .u64 0, .int .u64 0] := hf.2.1
            go_simp
            refine (HSS.out wx).mono ?_
            rintro e w2 ⟨rfl, hb2⟩
            exact hK _ _ rfl hb2
          · intro a wx hbx ho hf
            refine ⟨rfl, ?_⟩
            intro K hK
            have e0 : a.tmps[32]?.getD undef = .bool true := hf.1
            have e1 : a.tmps[35]?.getD undef = .bool true := hf.2.1
            go_simp
            exact hK _ _ rfl (Below.refl _ _)
          · intro a wx hbx ho hf
            refine ⟨rfl, ?_⟩
            intro K hK
            have e0 : a.tmps[36]?.getD undef = .bool true := hf.1
            go_simp
            exact hK _ _ rfl (Below.refl _ _)
          · intro a wx hbx ho hf
            exact wanted_off (j := 7) (b := false) (s := 37) rfl rfl rfl (hf.1) (by first | (simp; done) | (simp [undef]; done) | (intro h; cases h))
          · intro a wx hbx ho hf
            exact wanted_off (j := 7) (b := false) (s := 37) rfl rfl rfl (hf.2.1) (by first | (simp; done) | (simp [undef]; done) | (intro h; cases h))
          · intro a wx hbx ho hf
            exact wanted_off (j := 9) (b := true) (s := 39) rfl rfl rfl (hf.1) (by first | (simp; done) | (simp [undef]; done) | (intro h; cases h))
          · intro a wx hbx ho hf
            exact wanted_off (j := 9) (b := true) (s := 39) rfl rfl rfl (hf.2.1) (by first | (simp; done) | (simp [undef]; done) | (intro h; cases h))
          · intro a wx hbx ho hf
            exact wanted_off (j := 9) (b := true) (s := 39) rfl rfl rfl (hf.1) (by first | (simp; done) | (simp [undef]; done) | (intro h; cases h))
          · intro a wx hbx ho hf
            exact wanted_off (j := 9) (b := true) (s := 39) rfl rfl rfl (hf.2.2.2.1) (by first | (simp; done) | (simp [undef]; done) | (intro h; cases h))
          · intro a wx hbx ho hf
            exact wanted_off (j := 7) (b := false) (s := 37) rfl rfl rfl (hf.2.2.1) (by first | (simp; done) | (simp [undef]; done) | (intro h; cases h))
          · intro a wx hbx ho hf
            exact wanted_off (j := 7) (b := false) (s := 37) rfl rfl rfl (hf.2.2.1) (by first | (simp; done) | (simp [undef]; done) | (intro h; cases h))
          · intro a wx hbx ho hf
            exact wanted_off (j := 15) (b := true) (s := 45) rfl rfl rfl (hf.1) (by first | (simp; done) | (simp [undef]; done) | (intro h; cases h))
          · intro a wx hbx ho hf
            exact wanted_off (j := 15) (b := true) (s := 45) rfl rfl rfl (hf.1) (by first | (simp; done) | (simp [undef]; done) | (intro h; cases h))
          · intro a wx hbx ho hf
            exact wanted_off (j := 15) (b := true) (s := 45) rfl rfl rfl (hf.2.1) (by first | (simp; done) | (simp [undef]; done) | (intro h; cases h))
          · intro a wx hbx ho hf
            exact wanted_off (j := 15) (b := true) (s := 45) rfl rfl rfl (hf.2.2.2.1) (by first | (simp; done) | (simp [undef]; done) | (intro h; cases h))
          · intro a wx hbx ho hf
            exact wanted_off (j := 7) (b := false) (s := 37) rfl rfl rfl (hf.2.2.1) (by first | (simp; done) | (simp [undef]; done) | (intro h; cases h))
          · intro a wx hbx ho hf
            refine ⟨rfl, ?_⟩
            intro K hK
            have e0 : a.tmps[37]?.getD undef = .bool true := hf.1
            go_simp
            exact hK _ _ rfl (Below.refl _ _)
          · intro a wx hbx ho hf
            refine ⟨rfl, ?_⟩
            intro K hK
            have e0 : a.tmps[51]?.getD undef = .bool true := hf.1
            go_simp
            exact hK _ _ rfl (Below.refl _ _)
        · rintro f w9 hb9 hfin
          have hfe : f 2 = .bool true := hfin.2.2.2.2.2.2.2.2.2.2.2.2.2.2.2.2.2.2.2.2.2.2.1
          clear hfin
          simp only [frameOf, dstsOf, zipF, List.filterMap_cons, List.filterMap_nil, List.contains_cons, List.contains_nil, Nat.reduceBEq, Nat.reduceAdd, Bool.or_false, Bool.or_true, cond_true, cond_false]
          rw [hfe]
          go_wp2_with fail
          go_ret
          exact ⟨rfl, HBR.out.trans (hb9.mono HBR.out.size)⟩
    · have h2 : ((n : Int) == 32) = false := by rw [beq_eq_false_iff_ne]; omega
      have e0 : b = false := by rw [HB.out, exB, ← HNK.out]; exact decide_eq_false (fun h => h32 h.1)
      have hx0 : x = 0 := by rw [HX.out, exN, if_neg (fun h => h32 (HNK.out.trans h.1))]
      have KR := KX4
      have HBR := HB4
      obtain ⟨wr, hwr⟩ : ∃ wr, wr = w4' := ⟨_, rfl⟩
      rw [← hwr] at KR HBR ⊢
      subst hx0
      have SS := fun w => ssame_any 0 0 w hxP hxP
      have hz0 : w4 0 = #[.int .u64 0, .int .u64 0, .int .u64 0, .int .u64 0] := by kernel_rfl
      rw [decide_eq_true rfl, hz0] at SS
      rw [hz0] at KR
      have HSS := Lib.hid SS
      subst e0
      clear h32 hwr SS hz0
      go_wp2_with fail
      refine wp_region_live [fun v _ => v = .bool false, fun v _ => v = .bool true, fun v _ => v = .bool true, fun v _ => v = .agg #[.int .u64 0, .int .u64 0, .int .u64 0, .int .u64 0], fun v _ => v = .agg #[.int .u64 0, .int .u64 0, .int .u64 0, .int .u64 0], fun v _ => v = .bool true, fun v _ => v = .bool true, fun v _ => v = .bool true, fun v _ => v = undef, fun v _ => v = undef, fun v _ => v = undef, fun v _ => v = undef, fun v _ => v = undef, fun v _ => v = undef, fun v _ => v = undef, fun v _ => v = undef, fun v _ => v = undef, fun v _ => v = undef, fun v _ => v = undef, fun v _ => v = undef, fun v _ => v = undef, fun v _ => v = .bool true, fun v _ => v = .bool true]
        [false, false, false, false, false, false, false, false, false, false, false, false, false, false, false, false, false, false, false, false, false, false, true] [] [true, true, true, true, true, true, true, true, true, true, true, true, true, true, true, true, true, true, true, true, true, true, true]
        (by kernel_rfl) ?_ (by kernel_rfl) (by kernel_rfl) ?_ (by kernel_rfl) ?_ ?_
      · exact keeps_cons (fun _ _ _ h _ => h) (keeps_cons (fun _ _ _ h _ => h) (keeps_cons (fun _ _ _ h _ => h) (keeps_cons (fun _ _ _ h _ => h) (keeps_cons (fun _ _ _ h _ => h) (keeps_cons (fun _ _ _ h _ => h) (keeps_cons (fun _ _ _ h _ => h) (keeps_cons (fun _ _ _ h _ => h) (keeps_cons (fun _ _ _ h _ => h) (keeps_cons (fun _ _ _ h _ => h) (keeps_cons (fun _ _ _ h _ => h) (keeps_cons (fun _ _ _ h _ => h) (keeps_cons (fun _ _ _ h _ => h) (keeps_cons (fun _ _ _ h _ => h) (keeps_cons (fun _ _ _ h _ => h) (keeps_cons (fun _ _ _ h _ => h) (keeps_cons (fun _ _ _ h _ => h) (keeps_cons (fun _ _ _ h _ => h) (keeps_cons (fun _ _ _ h _ => h) (keeps_cons (fun _ _ _ h _ => h) (keeps_cons (fun _ _ _ h _ => h) (keeps_cons (fun _ _ _ h _ => h) (keeps_cons (fun _ _ _ h _ => h) (keeps_nil)))))))))))))))))))))))
      · exact pures_t (fun _ _ _ h => h) (pures_t (fun _ _ _ h => h) (pures_t (fun _ _ _ h => h) (pures_t (fun _ _ _ h => h) (pures_t (fun _ _ _ h => h) (pures_t (fun _ _ _ h => h) (pures_t (fun _ _ _ h => h) (pures_t (fun _ _ _ h => h) (pures_t (fun _ _ _ h => h) (pures_t (fun _ _ _ h => h) (pures_t (fun _ _ _ h => h) (pures_t (fun _ _ _ h => h) (pures_t (fun _ _ _ h => h) (pures_t (fun _ _ _ h => h) (pures_t (fun _ _ _ h => h) (pures_t (fun _ _ _ h => h) (pures_t (fun _ _ _ h => h) (pures_t (fun _ _ _ h => h) (pures_t (fun _ _ _ h => h) (pures_t (fun _ _ _ h => h) (pures_t (fun _ _ _ h => h) (pures_t (fun _ _ _ h => h) (pures_t (fun _ _ _ h => h) (pures_nil)))))))))))))))))))))))
      · refine .cons (owed2_go ?_) (.cons (owed2_go ?_) (.cons (owed2_go ?_) (.cons (owed2_go ?_) (.cons (owed2_go ?_) (.cons (owed2_go ?_) (.cons (owed2_go ?_) (.cons (owed2_go ?_) (.cons (owed2_off rfl ?_) (.cons (owed2_off rfl ?_) (.cons (owed2_off rfl ?_) (.cons (owed2_off rfl ?_) (.cons (owed2_off rfl ?_) (.cons (owed2_off rfl ?_) (.cons (owed2_off rfl ?_) (.cons (owed2_off rfl ?_) (.cons (owed2_off rfl ?_) (.cons (owed2_off rfl ?_) (.cons (owed2_off rfl ?_) (.cons (owed2_off rfl ?_) (.cons (owed2_off rfl ?_) (.cons (owed2_go ?_) (.cons (owed2_go ?_) (.nil)))))))))))))))))))))))
        · intro a wx hbx ho hf
          refine ⟨rfl, ?_⟩
          intro K hK
          have e0 : a.tmps[4]?.getD undef = .bool false := ho 4 (by kernel_rfl)
          go_simp
          exact hK _ _ rfl (Below.refl _ _)
        · intro a wx hbx ho hf
          refine ⟨rfl, ?_⟩
          intro K hK
          have e0 : a.tmps[30]?.getD undef = .bool false := hf.1
          go_simp
          exact hK _ _ rfl (Below.refl _ _)
        · intro a wx hbx ho hf
          refine ⟨rfl, ?_⟩
          intro K hK
          have e0 : a.tmps[31]?.getD undef = .bool true := hf.1
          go_simp
          exact hK _ _ rfl (Below.refl _ _)
        · intro a wx hbx ho hf
          refine ⟨wanted_slot (j := 2) (b := true) (s := 32) rfl rfl rfl (hf.1), ?_⟩
          intro K hK
          have e0 : a.tmps[3]?.getD undef = .pointer (some ⟨g, 0, none⟩) := ho 3 (by kernel_rfl)
          exact wp_load_row 27 (.tmp 3) rfl _ (evs e0) _ #[.int .u64 0, .int .u64 0, .int .u64 0, .int .u64 0] (0, 0) _ (KR.out.below hbx KR.out.lt) Try.underlying27 rfl (by kernel_rfl) (hK _ _ rfl (Below.refl _ _))
        · intro a wx hbx ho hf
          refine ⟨wanted_slot (j := 2) (b := true) (s := 32) rfl rfl rfl (hf.1), ?_⟩
          intro K hK
          go_simp
          exact hK _ _ rfl (Below.refl _ _)
        · intro a wx hbx ho hf
          refine ⟨wanted_slot (j := 2) (b := true) (s := 32) rfl rfl rfl (hf.2.2.1), ?_⟩
          intro K hK
          have e0 : a.tmps[33]?.getD undef = .agg #[.int .u64 0, .int .u64 0, .int .u64 0, .int .u64 0] := hf.1
          have e1 : a.tmps[34]?.getD undef = .agg #[.int .u64 0, .int .u64 0, .int .u64 0, .int .u64 0] := hf.2.1
          go_simp
          refine (HSS.out wx).mono ?_
          rintro e w2 ⟨rfl, hb2⟩
          exact hK _ _ rfl hb2
        · intro a wx hbx ho hf
          refine ⟨rfl, ?_⟩
          intro K hK
          have e0 : a.tmps[32]?.getD undef = .bool true := hf.1
          have e1 : a.tmps[35]?.getD undef = .bool true := hf.2.1
          go_simp
          exact hK _ _ rfl (Below.refl _ _)
        · intro a wx hbx ho hf
          refine ⟨rfl, ?_⟩
          intro K hK
          have e0 : a.tmps[36]?.getD undef = .bool true := hf.1
          go_simp
          exact hK _ _ rfl (Below.refl _ _)
        · intro a wx hbx ho hf
          exact wanted_off (j := 7) (b := false) (s := 37) rfl rfl rfl (hf.1) (by first | (simp; done) | (simp [undef]; done) | (intro h; cases h))
        · intro a wx hbx ho hf
          exact wanted_off (j := 7) (b := false) (s := 37) rfl rfl rfl (hf.2.1) (by first | (simp; done) | (simp [undef]; done) | (intro h; cases h))
        · intro a wx hbx ho hf
          exact wanted_off (j := 9) (b := true) (s := 39) rfl rfl rfl (hf.1) (by first | (simp; done) | (simp [undef]; done) | (intro h; cases h))
        · intro a wx hbx ho hf
          exact wanted_off (j := 9) (b := true) (s := 39) rfl rfl rfl (hf.2.1) (by first | (simp; done) | (simp [undef]; done) | (intro h; cases h))
        · intro a wx hbx ho hf
          exact wanted_off (j := 9) (b := true) (s := 39) rfl rfl rfl (hf.1) (by first | (simp; done) | (simp [undef]; done) | (intro h; cases h))
        · intro a wx hbx ho hf
          exact wanted_off (j := 9) (b := true) (s := 39) rfl rfl rfl (hf.2.2.2.1) (by first | (simp; done) | (simp [undef]; done) | (intro h; cases h))
        · intro a wx hbx ho hf
          exact wanted_off (j := 7) (b := false) (s := 37) rfl rfl rfl (hf.2.2.1) (by first | (simp; done) | (simp [undef]; done) | (intro h; cases h))
        · intro a wx hbx ho hf
          exact wanted_off (j := 7) (b := false) (s := 37) rfl rfl rfl (hf.2.2.1) (by first | (simp; done) | (simp [undef]; done) | (intro h; cases h))
        · intro a wx hbx ho hf
          exact wanted_off (j := 15) (b := true) (s := 45) rfl rfl rfl (hf.1) (by first | (simp; done) | (simp [undef]; done) | (intro h; cases h))
        · intro a wx hbx ho hf
          exact wanted_off (j := 15) (b := true) (s := 45) rfl rfl rfl (hf.1) (by first | (simp; done) | (simp [undef]; done) | (intro h; cases h))
        · intro a wx hbx ho hf
          exact wanted_off (j := 15) (b := true) (s := 45) rfl rfl rfl (hf.2.1) (by first | (simp; done) | (simp [undef]; done) | (intro h; cases h))
        · intro a wx hbx ho hf
          exact wanted_off (j := 15) (b := true) (s := 45) rfl rfl rfl (hf.2.2.2.1) (by first | (simp; done) | (simp [undef]; done) | (intro h; cases h))
        · intro a wx hbx ho hf
          exact wanted_off (j := 7) (b := false) (s := 37) rfl rfl rfl (hf.2.2.1) (by first | (simp; done) | (simp [undef]; done) | (intro h; cases h))
        · intro a wx hbx ho hf
          refine ⟨rfl, ?_⟩
          intro K hK
          have e0 : a.tmps[37]?.getD undef = .bool true := hf.1
          go_simp
          exact hK _ _ rfl (Below.refl _ _)
        · intro a wx hbx ho hf
          refine ⟨rfl, ?_⟩
          intro K hK
          have e0 : a.tmps[51]?.getD undef = .bool true := hf.1
          go_simp
          exact hK _ _ rfl (Below.refl _ _)
      · rintro f w9 hb9 hfin
        have hfe : f 2 = .bool true := hfin.2.2.2.2.2.2.2.2.2.2.2.2.2.2.2.2.2.2.2.2.2.2.1
        clear hfin
        simp only [frameOf, dstsOf, zipF, List.filterMap_cons, List.filterMap_nil, List.contains_cons, List.contains_nil, Nat.reduceBEq, Nat.reduceAdd, Bool.or_false, Bool.or_true, cond_true, cond_false]
        rw [hfe]
        go_wp2_with fail
        go_ret
        exact ⟨rfl, HBR.out.trans (hb9.mono HBR.out.size)⟩
end Go.Proofs.Ytkihcngllhjabaa
