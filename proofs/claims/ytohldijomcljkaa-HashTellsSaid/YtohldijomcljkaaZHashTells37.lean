/- Walks: the reference's Digest. -/
import Derived.Test.YtohldijomcljkaaZHashTells36
import Derived.Test.YtohldijomcljkaaZHashTells30
import Derived.Test.YtohldijomcljkaaZHashTells07
import Derived.Test.YtohldijomcljkaaZHashTells08
import Derived.Test.YtohldijomcljkaaZHashTells17
namespace Go.Proofs.Ytohldijomcljkaa
open Go.RowKit ShaM WireM
set_option linter.unusedVariables false
set_option maxRecDepth 100000 in
set_option maxHeartbeats 1000000 in
theorem digest_any (v : Value) (L : List Nat) (w : World) (h : Rd w v (bvs L)) (hL : ∀ x ∈ L, x < 256) (hl : L.length ≤ 1000000) :
    Calls Try.prog 28 #[v] w fun e w' => ∃ v', e = .returned v' ∧ Own w' w.heap.size 5 v' (bvs (shaF L)) ∧ Below w.heap.size w w' := by
  have TB := Lib.hid (table_any w)
  have RS := Lib.hid (fun (W : World) (hw : Below w.heap.size w W) (vh vk : Value) (hh : Rd W vh (qvs HL0)) (hk : Rd W vk (qvs KL)) => rsum_any v vh vk L W (h.below hw (Nat.le_refl _)) hh hk hL hl)
  clear h hL hl
  go_enter Try.func28, Try.ntmps28
  go_wp2_with fail
  refine (TB.out).mono ?_
  rintro e w1 ⟨v1, v2, rfl, h1, h2, hb⟩
  have C := Lib.hid (RS.out w1 hb v1 v2 h1 h2)
  have HB := Lib.hid hb
  clear h1 h2 hb
  go_wp2_with fail
  refine (C.out).mono ?_
  rintro e w2 ⟨v3, rfl, hown, hb2⟩
  have HO := Lib.hid hown
  have HB2 := Lib.hid (HB.out.trans (hb2.mono HB.out.size))
  clear hown hb2
  go_wp2_with fail
  go_ret
  exact ⟨_, rfl, HO.out.mono HB.out.size, HB2.out⟩
end Go.Proofs.Ytohldijomcljkaa
/- Walks: the reference's Collide. -/
namespace Go.Proofs.Ytohldijomcljkaa
open Go.RowKit ShaM WireM
set_option linter.unusedVariables false
/-- have two unlike texts one digest? -/
def badB (a b : List Nat) : Bool := !decide (a = b) && decide (shaF a = shaF b)
def collideB (A B : List (List Nat)) : Bool := A.any fun a => B.any fun b => badB a b
theorem collideB_yes {A B : List (List Nat)} {i k : Nat} (hi : i < A.length) (hk : k < B.length) (h : badB (A.getD i []) (B.getD k []) = true) : collideB A B = true := by
  rw [List.getD_eq_getElem?_getD, List.getElem?_eq_getElem hi, List.getD_eq_getElem?_getD, List.getElem?_eq_getElem hk] at h
  exact List.any_eq_true.2 ⟨A[i], List.getElem_mem hi, List.any_eq_true.2 ⟨B[k], List.getElem_mem hk, h⟩⟩
theorem collideB_no {A B : List (List Nat)} (h : ∀ i, i < A.length → ∀ k, k < B.length → badB (A.getD i []) (B.getD k []) = false) : collideB A B = false := by
  cases hc : collideB A B with
  | false => rfl
  | true =>
    obtain ⟨a, ha, hab⟩ := List.any_eq_true.1 hc
    obtain ⟨b, hb, hbad⟩ := List.any_eq_true.1 hab
    obtain ⟨i, hi, rfl⟩ := List.getElem_of_mem ha
    obtain ⟨k, hk, rfl⟩ := List.getElem_of_mem hb
    have := h i hi k hk
    rw [List.getD_eq_getElem?_getD, List.getElem?_eq_getElem hi, List.getD_eq_getElem?_getD, List.getElem?_eq_getElem hk] at this
    simp only [Option.getD_some] at this
    rw [hbad] at this; cases this
theorem RdL.at {w : World} {v : Value} {A : List (List Nat)} (h : RdL w v A) : ∃ a c, v = .slice a A.length c ∧ A.length ≤ c ∧ c ≤ maxLen ∧ ∀ i, i < A.length → ∃ b off u, a = some ⟨b, off, none⟩ ∧ b < w.heap.size ∧ w.cell? ⟨b, off + i, none⟩ = some u ∧ Rd w u (bvs (A.getD i [])) := by
  obtain ⟨vs, h1, h2, h3⟩ := h
  obtain ⟨a, c, e, l1, l2, _⟩ := id h1
  rw [e] at h1
  refine ⟨a, c, by rw [e, h2], by omega, l2, fun i hi => ?_⟩
  obtain ⟨u, k1, k2⟩ := h3 i A[i] (List.getElem?_eq_getElem hi)
  obtain ⟨b, off, e2, hb, hc⟩ := h1.at3 k1
  exact ⟨b, off, u, e2, hb, hc, by rw [List.getD_eq_getElem?_getD, List.getElem?_eq_getElem hi]; exact k2⟩
theorem shaF_lt2 (b : List Nat) : ∀ x ∈ shaF b, x < 256 := by
  intro x hx
  unfold shaF at hx
  rw [List.mem_flatten] at hx
  obtain ⟨l, hl, hx⟩ := hx
  obtain ⟨y, _, rfl⟩ := List.mem_map.1 hl
  exact beN_lt _ _ x hx
set_option maxRecDepth 100000 in
set_option maxHeartbeats 8000000 in
theorem collide_any (v v' : Value) (A B : List (List Nat)) (w : World) (h : RdL w v A) (h' : RdL w v' B) (hA : ∀ i, ∀ x ∈ A.getD i [], x < 256) (hB : ∀ i, ∀ x ∈ B.getD i [], x < 256) (lA : ∀ i, (A.getD i []).length ≤ 1000000) (lB : ∀ i, (B.getD i []).length ≤ 1000000) :
    Calls Try.prog 22 #[v, v'] w fun e w' => e = .returned (.bool (collideB A B)) ∧ Below w.heap.size w w' := by
  obtain ⟨a1, q1, rfl, hq1, hq12, -⟩ := h.at
  obtain ⟨a2, q2, rfl, hq2, hq22, -⟩ := h'.at
  have G1 := fun (W : World) (hw : Below w.heap.size w W) (i : Nat) (hi : i < A.length) => (show ∃ b off u, a1 = some ⟨b, off, none⟩ ∧ b < W.heap.size ∧ W.cell? ⟨b, off + i, none⟩ = some u ∧ Rd W u (bvs (A.getD i [])) by
    obtain ⟨a, c, e, _, _, k⟩ := (h.below hw (Nat.le_refl _)).at
    simp only [Value.slice.injEq] at e
    rw [e.1]; exact k i hi)
  have G2 := fun (W : World) (hw : Below w.heap.size w W) (i : Nat) (hi : i < B.length) => (show ∃ b off u, a2 = some ⟨b, off, none⟩ ∧ b < W.heap.size ∧ W.cell? ⟨b, off + i, none⟩ = some u ∧ Rd W u (bvs (B.getD i [])) by
    obtain ⟨a, c, e, _, _, k⟩ := (h'.below hw (Nat.le_refl _)).at
    simp only [Value.slice.injEq] at e
    rw [e.1]; exact k i hi)
  have Y := fun (i k : Nat) (hi : i < A.length) (hk : k < B.length) (h : badB (A.getD i []) (B.getD k []) = true) => collideB_yes hi hk h
  have No := fun (h : ∀ i, i < A.length → ∀ k, k < B.length → badB (A.getD i []) (B.getD k []) = false) => collideB_no h
  obtain ⟨n, hn⟩ : ∃ n, n = A.length := ⟨_, rfl⟩
  obtain ⟨m, hm⟩ : ∃ m, m = B.length := ⟨_, rfl⟩
  rw [← hn] at G1 Y No hq1 ⊢
  rw [← hm] at G2 Y No hq2 ⊢
  obtain ⟨R, hR⟩ : ∃ R, R = collideB A B := ⟨_, rfl⟩
  rw [← hR] at Y No ⊢
  have HG1 := Lib.hid G1
  have HG2 := Lib.hid G2
  have HY := Lib.hid Y
  have HNO := Lib.hid No
  have HAB := Lib.hid hA
  have HBB := Lib.hid hB
  have HLA := Lib.hid lA
  have HLB := Lib.hid lB
  unfold maxLen at hq12 hq22
  clear G1 G2 Y No h h' hA hB lA lB hn hm hR
  go_enter Try.func22, Try.ntmps22
  go_wp2_with fail
  go_loopg [5] n (fun q iv wr => ∃ i : Nat, i + q = n ∧ iv = .int .i64 (i : Nat) ∧ Below w.heap.size w wr ∧ ∀ j, j < i → ∀ k, k < m → badB (A.getD j []) (B.getD k []) = false)
  case atStart => exact ⟨0, by omega, rfl, Below.refl _ _, fun j hj => by omega⟩
  case round =>
    obtain ⟨i, hi, rfl, hb, hall⟩ := hrel
    have HI := Lib.hid hi
    have HBI := Lib.hid hb
    have HALL := Lib.hid hall
    by_cases hlt : i < n
    · have hlt' : decide (i < n) = true := decide_eq_true hlt
      have hltI : (i : Int) < (n : Int) := by omega
      obtain ⟨b1, f1, u1, rfl, hl10, kc10, hr10⟩ := HG1.out wr hb i hlt
      obtain ⟨X, hX⟩ : ∃ X, X = A.getD i [] := ⟨_, rfl⟩
      have hXb := HAB.out i
      have hXl := HLA.out i
      rw [← hX] at hr10 hXb hXl
      obtain ⟨r1, r2, r3, rfl⟩ : ∃ a b c, u1 = .slice a b c := by obtain ⟨a, c, e, _⟩ := hr10; exact ⟨_, _, _, e⟩
      have HR1 := Lib.hid hr10
      have HDG := Lib.hid (digest_any _ X wr hr10 hXb hXl)
      have HX := Lib.hid hX
      have HXB := Lib.hid hXb
      obtain ⟨go, rfl⟩ : ∃ g, g = gk := ⟨_, rfl⟩
      obtain ⟨wo, rfl⟩ : ∃ X : World, X = wr := ⟨_, rfl⟩
      clear hi hb hall hr10 hX hXb hXl
      go_wp2_with fail
      refine (HDG.out).mono ?_
      rintro e w2 ⟨v2, rfl, hown, hb2⟩
      obtain ⟨h1, h2, h3, rfl⟩ := slOf hown
      have HH0 := Lib.hid hown.rd
      have HB2 := Lib.hid (HBI.out.trans (hb2.mono HBI.out.size))
      have HC2 := Lib.hid (show Below wo.heap.size wo w2 from hb2)
      clear hown hb2
      go_wp2_with fail
      go_loopg [7] m (fun q kv wr => ∃ k : Nat, k + q = m ∧ kv = .int .i64 (k : Nat) ∧ Rd wr (.slice h1 h2 h3) (bvs (shaF X)) ∧ Below wo.heap.size wo wr ∧ ∀ j, j < k → badB X (B.getD j []) = false)
      case atStart => exact ⟨0, by omega, rfl, HH0.out, HC2.out, fun j hj => by omega⟩
      case round =>
        obtain ⟨k, hk, rfl, hh, hbk, hka⟩ := hrel
        have HK := Lib.hid hk
        have HH := Lib.hid hh
        have HBK := Lib.hid hbk
        have HKA := Lib.hid hka
        by_cases hlk : k < m
        · have hlk' : decide (k < m) = true := decide_eq_true hlk
          have hlkI : (k : Int) < (m : Int) := by omega
          obtain ⟨b2, f2, u2, rfl, hl2, kc2, hr2⟩ := HG2.out wr (HBI.out.trans (hbk.mono HBI.out.size)) k hlk
          obtain ⟨Y, hY⟩ : ∃ Y, Y = B.getD k [] := ⟨_, rfl⟩
          have hYb := HBB.out k
          have hYl := HLB.out k
          rw [← hY] at hr2 hYb hYl
          obtain ⟨s1, s2, s3, rfl⟩ : ∃ a b c, u2 = .slice a b c := by obtain ⟨a, c, e, _⟩ := hr2; exact ⟨_, _, _, e⟩
          have hl1 : b1 < wr.heap.size := Nat.lt_of_lt_of_le hl10 hbk.size
          have kc1 : wr.cell? ⟨b1, f1 + i, none⟩ = some (.slice r1 r2 r3) := (hbk.cell (p := ⟨b1, f1 + i, none⟩) hl10).trans kc10
          have hra := HR1.out.below hbk (Nat.le_refl _)
          have HD1 := Lib.hid (fun (W : World) (hw : Below wr.heap.size wr W) => digest_any (.slice s1 s2 s3) Y W (hr2.below hw (Nat.le_refl _)) hYb hYl)
          have S1 := fun (b : Bool) (hb : decide (X = Y) = b) (W : World) (hw : Below wr.heap.size wr W) => same_dec (.slice r1 r2 r3) (.slice s1 s2 s3) X Y W (hra.below hw (Nat.le_refl _)) (hr2.below hw (Nat.le_refl _)) HXB.out hYb b hb
          have S2 := fun (b : Bool) (hb : decide (shaF X = shaF Y) = b) (W : World) (hw : Below wr.heap.size wr W) (v : Value) (hv : Rd W v (bvs (shaF Y))) => same_dec (.slice h1 h2 h3) v (shaF X) (shaF Y) W (hh.below hw (Nat.le_refl _)) hv (shaF_lt2 X) (shaF_lt2 Y) b hb
          have HYE := Lib.hid hY
          cases hsb : decide (X = Y) with
          | true =>
            have HS1 := Lib.hid (S1 true hsb)
            have HBAD := Lib.hid (show badB X (B.getD k []) = false by rw [← hY]; unfold badB; rw [hsb]; rfl)
            have hdb := hsb
            clear S1 S2 hk hh hbk hka hra hr2 hYb hYl hY
            clear hsb hdb
            go_wp2_with fail
            refine wp_region_rel [fun v _ => v = .slice (some ⟨b1, f1, none⟩) n q1, fun v _ => v = .int .i64 (i : Nat), fun v _ => v = .pointer (some ⟨b1, f1 + i, none⟩), fun v _ => v = .slice r1 r2 r3, fun v _ => v = .slice (some ⟨b2, f2, none⟩) m q2, fun v _ => v = .int .i64 (k : Nat), fun v _ => v = .pointer (some ⟨b2, f2 + k, none⟩), fun v _ => v = .slice s1 s2 s3, fun v _ => v = .bool true, fun v _ => v = .bool false, fun v _ => v = .bool false, fun v _ => v = undef, fun v _ => v = undef, fun v _ => v = undef, fun v _ => v = undef, fun v _ => v = undef, fun v _ => v = undef, fun v _ => v = undef, fun v _ => v = .bool false]
              [true, true, true, true, true, true, true, true, true, true, true, true, true, true, true, true, true, true, true] (fun x => Below wr.heap.size wr x) (fun x y => Below x.heap.size x y) none (by kernel_rfl) ?_ (⟨rfl, rfl, rfl, Nat.le_refl _, fun _ _ => rfl⟩) (fun x y _ h => h) (fun x y hx hs => hx.trans (hs.mono hx.size)) (by kernel_rfl) (by kernel_rfl) ?_ ?_
            · exact keepsR_n (fun _ _ _ h _ _ => h) (keepsR_n (fun _ _ _ h _ _ => h) (keepsR_n (fun _ _ _ h _ _ => h) (keepsR_n (fun _ _ _ h _ _ => h) (keepsR_n (fun _ _ _ h _ _ => h) (keepsR_n (fun _ _ _ h _ _ => h) (keepsR_n (fun _ _ _ h _ _ => h) (keepsR_n (fun _ _ _ h _ _ => h) (keepsR_n (fun _ _ _ h _ _ => h) (keepsR_n (fun _ _ _ h _ _ => h) (keepsR_n (fun _ _ _ h _ _ => h) (keepsR_n (fun _ _ _ h _ _ => h) (keepsR_n (fun _ _ _ h _ _ => h) (keepsR_n (fun _ _ _ h _ _ => h) (keepsR_n (fun _ _ _ h _ _ => h) (keepsR_n (fun _ _ _ h _ _ => h) (keepsR_n (fun _ _ _ h _ _ => h) (keepsR_n (fun _ _ _ h _ _ => h) (keepsR_n (fun _ _ _ h _ _ => h) (keepsR_nil)))))))))))))))))))
            · refine .cons (owed7_go ?_) (.cons (owed7_go ?_) (.cons (owed7_go ?_) (.cons (owed7_go ?_) (.cons (owed7_go ?_) (.cons (owed7_go ?_) (.cons (owed7_go ?_) (.cons (owed7_go ?_) (.cons (owed7_go ?_) (.cons (owed7_go ?_) (.cons (owed7_go ?_) (.cons (owed7_off rfl rfl rfl ?_) (.cons (owed7_off rfl rfl rfl ?_) (.cons (owed7_off rfl rfl rfl ?_) (.cons (owed7_off rfl rfl rfl ?_) (.cons (owed7_off rfl rfl rfl ?_) (.cons (owed7_off rfl rfl rfl ?_) (.cons (owed7_off rfl rfl rfl ?_) (.cons (owed7_go ?_) (.nil)))))))))))))))))))
              · intro a wx hbx hq ho hf
                have hbx : Below wr.heap.size wr wx := hbx
                have hbq : Below wr.heap.size wr wx := hq (by kernel_rfl)
                clear hq
                refine ⟨rfl, ?_⟩
                intro K hK
                have e0 : a.tmps[0]?.getD undef = .slice (some ⟨b1, f1, none⟩) n q1 := ho 0 (by kernel_rfl)
                go_simp
                exact hK _ _ rfl (stepR_no rfl (Below.refl _ _))
              · intro a wx hbx hq ho hf
                have hbx : Below wr.heap.size wr wx := hbx
                have hbq : Below wr.heap.size wr wx := hq (by kernel_rfl)
                clear hq
                refine ⟨rfl, ?_⟩
                intro K hK
                have e0 : a.tmps[5]?.getD undef = .int .i64 (i : Nat) := ho 5 (by kernel_rfl)
                go_simp
                exact hK _ _ rfl (stepR_no rfl (Below.refl _ _))
              · intro a wx hbx hq ho hf
                have hbx : Below wr.heap.size wr wx := hbx
                have hbq : Below wr.heap.size wr wx := hq (by kernel_rfl)
                clear hq
                refine ⟨rfl, ?_⟩
                intro K hK
                have e0 : a.tmps[25]?.getD undef = .slice (some ⟨b1, f1, none⟩) n q1 := hf.1
                have e1 : a.tmps[26]?.getD undef = .int .i64 (i : Nat) := hf.2.1
                go_simp
                exact hK _ _ rfl (stepR_no rfl (Below.refl _ _))
              · intro a wx hbx hq ho hf
                have hbx : Below wr.heap.size wr wx := hbx
                have hbq : Below wr.heap.size wr wx := hq (by kernel_rfl)
                clear hq
                refine ⟨rfl, ?_⟩
                intro K hK
                have e0 : a.tmps[27]?.getD undef = .pointer (some ⟨b1, f1 + i, none⟩) := hf.1
                have d1 := (hbq.cell (p := ⟨b1, f1 + i, none⟩) hl1).trans kc1
                go_simp
                exact hK _ _ rfl (stepR_no rfl (Below.refl _ _))
              · intro a wx hbx hq ho hf
                have hbx : Below wr.heap.size wr wx := hbx
                have hbq : Below wr.heap.size wr wx := hq (by kernel_rfl)
                clear hq
                refine ⟨rfl, ?_⟩
                intro K hK
                have e0 : a.tmps[1]?.getD undef = .slice (some ⟨b2, f2, none⟩) m q2 := ho 1 (by kernel_rfl)
                go_simp
                exact hK _ _ rfl (stepR_no rfl (Below.refl _ _))
              · intro a wx hbx hq ho hf
                have hbx : Below wr.heap.size wr wx := hbx
                have hbq : Below wr.heap.size wr wx := hq (by kernel_rfl)
                clear hq
                refine ⟨rfl, ?_⟩
                intro K hK
                have e0 : a.tmps[7]?.getD undef = .int .i64 (k : Nat) := ho 7 (by kernel_rfl)
                go_simp
                exact hK _ _ rfl (stepR_no rfl (Below.refl _ _))
              · intro a wx hbx hq ho hf
                have hbx : Below wr.heap.size wr wx := hbx
                have hbq : Below wr.heap.size wr wx := hq (by kernel_rfl)
                clear hq
                refine ⟨rfl, ?_⟩
                intro K hK
                have e0 : a.tmps[29]?.getD undef = .slice (some ⟨b2, f2, none⟩) m q2 := hf.1
                have e1 : a.tmps[30]?.getD undef = .int .i64 (k : Nat) := hf.2.1
                go_simp
                exact hK _ _ rfl (stepR_no rfl (Below.refl _ _))
              · intro a wx hbx hq ho hf
                have hbx : Below wr.heap.size wr wx := hbx
                have hbq : Below wr.heap.size wr wx := hq (by kernel_rfl)
                clear hq
                refine ⟨rfl, ?_⟩
                intro K hK
                have e0 : a.tmps[31]?.getD undef = .pointer (some ⟨b2, f2 + k, none⟩) := hf.1
                have d1 := (hbq.cell (p := ⟨b2, f2 + k, none⟩) hl2).trans kc2
                go_simp
                exact hK _ _ rfl (stepR_no rfl (Below.refl _ _))
              · intro a wx hbx hq ho hf
                have hbx : Below wr.heap.size wr wx := hbx
                have hbq : Below wr.heap.size wr wx := hq (by kernel_rfl)
                clear hq
                refine ⟨rfl, ?_⟩
                intro K hK
                have e0 : a.tmps[28]?.getD undef = .slice r1 r2 r3 := hf.1
                have e1 : a.tmps[32]?.getD undef = .slice s1 s2 s3 := hf.2.1
                go_simp
                refine (HS1.out wx hbq).mono ?_
                rintro e w2 ⟨rfl, n9, rfl⟩
                exact hK _ _ rfl (stepR_no rfl (below_drewN' (Below.refl _ _) _))
              · intro a wx hbx hq ho hf
                have hbx : Below wr.heap.size wr wx := hbx
                have hbq : Below wr.heap.size wr wx := hq (by kernel_rfl)
                clear hq
                refine ⟨rfl, ?_⟩
                intro K hK
                have e0 : a.tmps[33]?.getD undef = .bool true := hf.1
                go_simp
                exact hK _ _ rfl (stepR_no rfl (Below.refl _ _))
              · intro a wx hbx hq ho hf
                have hbx : Below wr.heap.size wr wx := hbx
                have hbq : Below wr.heap.size wr wx := hq (by kernel_rfl)
                clear hq
                refine ⟨rfl, ?_⟩
                intro K hK
                have e0 : a.tmps[34]?.getD undef = .bool false := hf.1
                go_simp
                exact hK _ _ rfl (stepR_no rfl (Below.refl _ _))
              · intro a wx hf
                exact wanted_off7 (j := 10) (b := true) (s := 35) rfl rfl rfl (hf.1) (by first | (simp; done) | (simp [undef]; done) | (intro h; cases h))
              · intro a wx hf
                exact wanted_off7 (j := 10) (b := true) (s := 35) rfl rfl rfl (hf.1) (by first | (simp; done) | (simp [undef]; done) | (intro h; cases h))
              · intro a wx hf
                exact wanted_off7 (j := 10) (b := true) (s := 35) rfl rfl rfl (hf.1) (by first | (simp; done) | (simp [undef]; done) | (intro h; cases h))
              · intro a wx hf
                exact wanted_off7 (j := 10) (b := true) (s := 35) rfl rfl rfl (hf.2.2.1) (by first | (simp; done) | (simp [undef]; done) | (intro h; cases h))
              · intro a wx hf
                exact wanted_off7 (j := 10) (b := true) (s := 35) rfl rfl rfl (hf.2.1) (by first | (simp; done) | (simp [undef]; done) | (intro h; cases h))
              · intro a wx hf
                exact wanted_off7 (j := 10) (b := true) (s := 35) rfl rfl rfl (hf.2.1) (by first | (simp; done) | (simp [undef]; done) | (intro h; cases h))
              · intro a wx hf
                exact wanted_off7 (j := 10) (b := true) (s := 35) rfl rfl rfl (hf.2.2.2.1) (by first | (simp; done) | (simp [undef]; done) | (intro h; cases h))
              · intro a wx hbx hq ho hf
                have hbx : Below wr.heap.size wr wx := hbx
                have hbq : Below wr.heap.size wr wx := hq (by kernel_rfl)
                clear hq
                refine ⟨rfl, ?_⟩
                intro K hK
                have e0 : a.tmps[35]?.getD undef = .bool false := hf.1
                go_simp
                exact hK _ _ rfl (stepR_no rfl (Below.refl _ _))
            · rintro f w9 hb9 hfin
              have hb9 : Below wr.heap.size wr w9 := hb9
              have S43 : f 43 = .bool false := hfin.2.2.2.2.2.2.2.2.2.2.2.2.2.2.2.2.2.2.1
              clear hfin
              simp only [frameOf, dstsOf, zipF, List.filterMap_cons, List.filterMap_nil, List.contains_cons, List.contains_nil, Nat.reduceBEq, Nat.reduceAdd, Bool.or_false, Bool.or_true, cond_true, cond_false]
              rw [S43]
              clear S43
              have HB9 := Lib.hid (HBK.out.trans (hb9.mono HBK.out.size))
              have HH9 := Lib.hid (HH.out.below hb9 (Nat.le_refl _))
              clear hb9
              go_wp2_with fail
              go_roundg (gk - 1)
              case measure => have := HK.out; omega
              case rel =>
                refine ⟨k + 1, by have := HK.out; omega, by go_num, HH9.out, HB9.out, fun j hj => ?_⟩
                by_cases e : j = k
                · rw [e]; exact HBAD.out
                · exact HKA.out j (by omega)
          | false =>
            have HS1 := Lib.hid (S1 false hsb)
            cases hdb : decide (shaF X = shaF Y) with
            | true =>
              have HS2 := Lib.hid (S2 true hdb)
              have HBAD := Lib.hid (HY.out i k hlt hlk (by rw [← HX.out, ← hY]; unfold badB; rw [hsb, hdb]; rfl))
              clear S1 S2 hk hh hbk hka hra hr2 hYb hYl hY
              clear hsb hdb
              go_wp2_with fail
              refine wp_region_rel [fun v _ => v = .slice (some ⟨b1, f1, none⟩) n q1, fun v _ => v = .int .i64 (i : Nat), fun v _ => v = .pointer (some ⟨b1, f1 + i, none⟩), fun v _ => v = .slice r1 r2 r3, fun v _ => v = .slice (some ⟨b2, f2, none⟩) m q2, fun v _ => v = .int .i64 (k : Nat), fun v _ => v = .pointer (some ⟨b2, f2 + k, none⟩), fun v _ => v = .slice s1 s2 s3, fun v _ => v = .bool false, fun v _ => v = .bool true, fun v _ => v = .bool true, fun v _ => v = .slice h1 h2 h3, fun v _ => v = .slice (some ⟨b2, f2, none⟩) m q2, fun v _ => v = .int .i64 (k : Nat), fun v _ => v = .pointer (some ⟨b2, f2 + k, none⟩), fun v _ => v = .slice s1 s2 s3, fun v w' => Own w' wr.heap.size 5 v (bvs (shaF Y)), fun v _ => v = .bool true, fun v _ => v = .bool true]
                [true, true, true, true, true, true, true, true, true, true, true, true, true, true, true, true, true, true, true] (fun x => Below wr.heap.size wr x) (fun x y => Below x.heap.size x y) none (by kernel_rfl) ?_ (⟨rfl, rfl, rfl, Nat.le_refl _, fun _ _ => rfl⟩) (fun x y _ h => h) (fun x y hx hs => hx.trans (hs.mono hx.size)) (by kernel_rfl) (by kernel_rfl) ?_ ?_
              · exact keepsR_n (fun _ _ _ h _ _ => h) (keepsR_n (fun _ _ _ h _ _ => h) (keepsR_n (fun _ _ _ h _ _ => h) (keepsR_n (fun _ _ _ h _ _ => h) (keepsR_n (fun _ _ _ h _ _ => h) (keepsR_n (fun _ _ _ h _ _ => h) (keepsR_n (fun _ _ _ h _ _ => h) (keepsR_n (fun _ _ _ h _ _ => h) (keepsR_n (fun _ _ _ h _ _ => h) (keepsR_n (fun _ _ _ h _ _ => h) (keepsR_n (fun _ _ _ h _ _ => h) (keepsR_n (fun _ _ _ h _ _ => h) (keepsR_n (fun _ _ _ h _ _ => h) (keepsR_n (fun _ _ _ h _ _ => h) (keepsR_n (fun _ _ _ h _ _ => h) (keepsR_n (fun _ _ _ h _ _ => h) (keepsR_n (fun v x y h _ hs => Own.below h hs (Nat.le_refl _)) (keepsR_n (fun _ _ _ h _ _ => h) (keepsR_n (fun _ _ _ h _ _ => h) (keepsR_nil)))))))))))))))))))
              · refine .cons (owed7_go ?_) (.cons (owed7_go ?_) (.cons (owed7_go ?_) (.cons (owed7_go ?_) (.cons (owed7_go ?_) (.cons (owed7_go ?_) (.cons (owed7_go ?_) (.cons (owed7_go ?_) (.cons (owed7_go ?_) (.cons (owed7_go ?_) (.cons (owed7_go ?_) (.cons (owed7_go ?_) (.cons (owed7_go ?_) (.cons (owed7_go ?_) (.cons (owed7_go ?_) (.cons (owed7_go ?_) (.cons (owed7_go ?_) (.cons (owed7_go ?_) (.cons (owed7_go ?_) (.nil)))))))))))))))))))
                · intro a wx hbx hq ho hf
                  have hbx : Below wr.heap.size wr wx := hbx
                  have hbq : Below wr.heap.size wr wx := hq (by kernel_rfl)
                  clear hq
                  refine ⟨rfl, ?_⟩
                  intro K hK
                  have e0 : a.tmps[0]?.getD undef = .slice (some ⟨b1, f1, none⟩) n q1 := ho 0 (by kernel_rfl)
                  go_simp
                  exact hK _ _ rfl (stepR_no rfl (Below.refl _ _))
                · intro a wx hbx hq ho hf
                  have hbx : Below wr.heap.size wr wx := hbx
                  have hbq : Below wr.heap.size wr wx := hq (by kernel_rfl)
                  clear hq
                  refine ⟨rfl, ?_⟩
                  intro K hK
                  have e0 : a.tmps[5]?.getD undef = .int .i64 (i : Nat) := ho 5 (by kernel_rfl)
                  go_simp
                  exact hK _ _ rfl (stepR_no rfl (Below.refl _ _))
                · intro a wx hbx hq ho hf
                  have hbx : Below wr.heap.size wr wx := hbx
                  have hbq : Below wr.heap.size wr wx := hq (by kernel_rfl)
                  clear hq
                  refine ⟨rfl, ?_⟩
                  intro K hK
                  have e0 : a.tmps[25]?.getD undef = .slice (some ⟨b1, f1, none⟩) n q1 := hf.1
                  have e1 : a.tmps[26]?.getD undef = .int .i64 (i : Nat) := hf.2.1
                  go_simp
                  exact hK _ _ rfl (stepR_no rfl (Below.refl _ _))
                · intro a wx hbx hq ho hf
                  have hbx : Below wr.heap.size wr wx := hbx
                  have hbq : Below wr.heap.size wr wx := hq (by kernel_rfl)
                  clear hq
                  refine ⟨rfl, ?_⟩
                  intro K hK
                  have e0 : a.tmps[27]?.getD undef = .pointer (some ⟨b1, f1 + i, none⟩) := hf.1
                  have d1 := (hbq.cell (p := ⟨b1, f1 + i, none⟩) hl1).trans kc1
                  go_simp
                  exact hK _ _ rfl (stepR_no rfl (Below.refl _ _))
                · intro a wx hbx hq ho hf
                  have hbx : Below wr.heap.size wr wx := hbx
                  have hbq : Below wr.heap.size wr wx := hq (by kernel_rfl)
                  clear hq
                  refine ⟨rfl, ?_⟩
                  intro K hK
                  have e0 : a.tmps[1]?.getD undef = .slice (some ⟨b2, f2, none⟩) m q2 := ho 1 (by kernel_rfl)
                  go_simp
                  exact hK _ _ rfl (stepR_no rfl (Below.refl _ _))
                · intro a wx hbx hq ho hf
                  have hbx : Below wr.heap.size wr wx := hbx
                  have hbq : Below wr.heap.size wr wx := hq (by kernel_rfl)
                  clear hq
                  refine ⟨rfl, ?_⟩
                  intro K hK
                  have e0 : a.tmps[7]?.getD undef = .int .i64 (k : Nat) := ho 7 (by kernel_rfl)
                  go_simp
                  exact hK _ _ rfl (stepR_no rfl (Below.refl _ _))
                · intro a wx hbx hq ho hf
                  have hbx : Below wr.heap.size wr wx := hbx
                  have hbq : Below wr.heap.size wr wx := hq (by kernel_rfl)
                  clear hq
                  refine ⟨rfl, ?_⟩
                  intro K hK
                  have e0 : a.tmps[29]?.getD undef = .slice (some ⟨b2, f2, none⟩) m q2 := hf.1
                  have e1 : a.tmps[30]?.getD undef = .int .i64 (k : Nat) := hf.2.1
                  go_simp
                  exact hK _ _ rfl (stepR_no rfl (Below.refl _ _))
                · intro a wx hbx hq ho hf
                  have hbx : Below wr.heap.size wr wx := hbx
                  have hbq : Below wr.heap.size wr wx := hq (by kernel_rfl)
                  clear hq
                  refine ⟨rfl, ?_⟩
                  intro K hK
                  have e0 : a.tmps[31]?.getD undef = .pointer (some ⟨b2, f2 + k, none⟩) := hf.1
                  have d1 := (hbq.cell (p := ⟨b2, f2 + k, none⟩) hl2).trans kc2
                  go_simp
                  exact hK _ _ rfl (stepR_no rfl (Below.refl _ _))
                · intro a wx hbx hq ho hf
                  have hbx : Below wr.heap.size wr wx := hbx
                  have hbq : Below wr.heap.size wr wx := hq (by kernel_rfl)
                  clear hq
                  refine ⟨rfl, ?_⟩
                  intro K hK
                  have e0 : a.tmps[28]?.getD undef = .slice r1 r2 r3 := hf.1
                  have e1 : a.tmps[32]?.getD undef = .slice s1 s2 s3 := hf.2.1
                  go_simp
                  refine (HS1.out wx hbq).mono ?_
                  rintro e w2 ⟨rfl, n9, rfl⟩
                  exact hK _ _ rfl (stepR_no rfl (below_drewN' (Below.refl _ _) _))
                · intro a wx hbx hq ho hf
                  have hbx : Below wr.heap.size wr wx := hbx
                  have hbq : Below wr.heap.size wr wx := hq (by kernel_rfl)
                  clear hq
                  refine ⟨rfl, ?_⟩
                  intro K hK
                  have e0 : a.tmps[33]?.getD undef = .bool false := hf.1
                  go_simp
                  exact hK _ _ rfl (stepR_no rfl (Below.refl _ _))
                · intro a wx hbx hq ho hf
                  have hbx : Below wr.heap.size wr wx := hbx
                  have hbq : Below wr.heap.size wr wx := hq (by kernel_rfl)
                  clear hq
                  refine ⟨rfl, ?_⟩
                  intro K hK
                  have e0 : a.tmps[34]?.getD undef = .bool true := hf.1
                  go_simp
                  exact hK _ _ rfl (stepR_no rfl (Below.refl _ _))
                · intro a wx hbx hq ho hf
                  have hbx : Below wr.heap.size wr wx := hbx
                  have hbq : Below wr.heap.size wr wx := hq (by kernel_rfl)
                  clear hq
                  refine ⟨wanted_slot (j := 10) (b := true) (s := 35) rfl rfl rfl (hf.1), ?_⟩
                  intro K hK
                  have e0 : a.tmps[6]?.getD undef = .slice h1 h2 h3 := ho 6 (by kernel_rfl)
                  go_simp
                  exact hK _ _ rfl (stepR_no rfl (Below.refl _ _))
                · intro a wx hbx hq ho hf
                  have hbx : Below wr.heap.size wr wx := hbx
                  have hbq : Below wr.heap.size wr wx := hq (by kernel_rfl)
                  clear hq
                  refine ⟨wanted_slot (j := 10) (b := true) (s := 35) rfl rfl rfl (hf.1), ?_⟩
                  intro K hK
                  have e0 : a.tmps[1]?.getD undef = .slice (some ⟨b2, f2, none⟩) m q2 := ho 1 (by kernel_rfl)
                  go_simp
                  exact hK _ _ rfl (stepR_no rfl (Below.refl _ _))
                · intro a wx hbx hq ho hf
                  have hbx : Below wr.heap.size wr wx := hbx
                  have hbq : Below wr.heap.size wr wx := hq (by kernel_rfl)
                  clear hq
                  refine ⟨wanted_slot (j := 10) (b := true) (s := 35) rfl rfl rfl (hf.1), ?_⟩
                  intro K hK
                  have e0 : a.tmps[7]?.getD undef = .int .i64 (k : Nat) := ho 7 (by kernel_rfl)
                  go_simp
                  exact hK _ _ rfl (stepR_no rfl (Below.refl _ _))
                · intro a wx hbx hq ho hf
                  have hbx : Below wr.heap.size wr wx := hbx
                  have hbq : Below wr.heap.size wr wx := hq (by kernel_rfl)
                  clear hq
                  refine ⟨wanted_slot (j := 10) (b := true) (s := 35) rfl rfl rfl (hf.2.2.1), ?_⟩
                  intro K hK
                  have e0 : a.tmps[37]?.getD undef = .slice (some ⟨b2, f2, none⟩) m q2 := hf.1
                  have e1 : a.tmps[38]?.getD undef = .int .i64 (k : Nat) := hf.2.1
                  go_simp
                  exact hK _ _ rfl (stepR_no rfl (Below.refl _ _))
                · intro a wx hbx hq ho hf
                  have hbx : Below wr.heap.size wr wx := hbx
                  have hbq : Below wr.heap.size wr wx := hq (by kernel_rfl)
                  clear hq
                  refine ⟨wanted_slot (j := 10) (b := true) (s := 35) rfl rfl rfl (hf.2.1), ?_⟩
                  intro K hK
                  have e0 : a.tmps[39]?.getD undef = .pointer (some ⟨b2, f2 + k, none⟩) := hf.1
                  have d1 := (hbq.cell (p := ⟨b2, f2 + k, none⟩) hl2).trans kc2
                  go_simp
                  exact hK _ _ rfl (stepR_no rfl (Below.refl _ _))
                · intro a wx hbx hq ho hf
                  have hbx : Below wr.heap.size wr wx := hbx
                  have hbq : Below wr.heap.size wr wx := hq (by kernel_rfl)
                  clear hq
                  refine ⟨wanted_slot (j := 10) (b := true) (s := 35) rfl rfl rfl (hf.2.1), ?_⟩
                  intro K hK
                  have e0 : a.tmps[40]?.getD undef = .slice s1 s2 s3 := hf.1
                  go_simp
                  refine (HD1.out wx hbq).mono ?_
                  rintro e w2 ⟨v9, rfl, hown, hb2⟩
                  exact hK _ _ (hown.mono hbq.size) (stepR_no rfl hb2)
                · intro a wx hbx hq ho hf
                  have hbx : Below wr.heap.size wr wx := hbx
                  have hbq : Below wr.heap.size wr wx := hq (by kernel_rfl)
                  clear hq
                  refine ⟨wanted_slot (j := 10) (b := true) (s := 35) rfl rfl rfl (hf.2.2.2.1), ?_⟩
                  intro K hK
                  have e0 : a.tmps[36]?.getD undef = .slice h1 h2 h3 := hf.1
                  have o1 : Own wx wr.heap.size 5 (a.tmps[41]?.getD undef) (bvs (shaF Y)) := hf.2.1
                  obtain ⟨v1, hv1⟩ : ∃ v, v = a.tmps[41]?.getD undef := ⟨_, rfl⟩
                  rw [← hv1] at o1
                  have e1 := hv1.symm
                  clear hv1
                  go_simp
                  refine (HS2.out wx hbq v1 o1.rd).mono ?_
                  rintro e w2 ⟨rfl, n9, rfl⟩
                  exact hK _ _ rfl (stepR_no rfl (below_drewN' (Below.refl _ _) _))
                · intro a wx hbx hq ho hf
                  have hbx : Below wr.heap.size wr wx := hbx
                  have hbq : Below wr.heap.size wr wx := hq (by kernel_rfl)
                  clear hq
                  refine ⟨rfl, ?_⟩
                  intro K hK
                  have e0 : a.tmps[35]?.getD undef = .bool true := hf.1
                  have e1 : a.tmps[42]?.getD undef = .bool true := hf.2.1
                  go_simp
                  exact hK _ _ rfl (stepR_no rfl (Below.refl _ _))
              · rintro f w9 hb9 hfin
                have hb9 : Below wr.heap.size wr w9 := hb9
                have S43 : f 43 = .bool true := hfin.2.2.2.2.2.2.2.2.2.2.2.2.2.2.2.2.2.2.1
                clear hfin
                simp only [frameOf, dstsOf, zipF, List.filterMap_cons, List.filterMap_nil, List.contains_cons, List.contains_nil, Nat.reduceBEq, Nat.reduceAdd, Bool.or_false, Bool.or_true, cond_true, cond_false]
                rw [S43]
                clear S43
                have HB9 := Lib.hid (HBK.out.trans (hb9.mono HBK.out.size))
                clear hb9
                go_wp2_with fail
                go_ret
                exact ⟨retB HBAD.out, HBI.out.trans (HB9.out.mono HBI.out.size)⟩
            | false =>
              have HS2 := Lib.hid (S2 false hdb)
              have HBAD := Lib.hid (show badB X (B.getD k []) = false by rw [← hY]; unfold badB; rw [hsb, hdb]; rfl)
              clear S1 S2 hk hh hbk hka hra hr2 hYb hYl hY
              clear hsb hdb
              go_wp2_with fail
              refine wp_region_rel [fun v _ => v = .slice (some ⟨b1, f1, none⟩) n q1, fun v _ => v = .int .i64 (i : Nat), fun v _ => v = .pointer (some ⟨b1, f1 + i, none⟩), fun v _ => v = .slice r1 r2 r3, fun v _ => v = .slice (some ⟨b2, f2, none⟩) m q2, fun v _ => v = .int .i64 (k : Nat), fun v _ => v = .pointer (some ⟨b2, f2 + k, none⟩), fun v _ => v = .slice s1 s2 s3, fun v _ => v = .bool false, fun v _ => v = .bool true, fun v _ => v = .bool true, fun v _ => v = .slice h1 h2 h3, fun v _ => v = .slice (some ⟨b2, f2, none⟩) m q2, fun v _ => v = .int .i64 (k : Nat), fun v _ => v = .pointer (some ⟨b2, f2 + k, none⟩), fun v _ => v = .slice s1 s2 s3, fun v w' => Own w' wr.heap.size 5 v (bvs (shaF Y)), fun v _ => v = .bool false, fun v _ => v = .bool false]
                [true, true, true, true, true, true, true, true, true, true, true, true, true, true, true, true, true, true, true] (fun x => Below wr.heap.size wr x) (fun x y => Below x.heap.size x y) none (by kernel_rfl) ?_ (⟨rfl, rfl, rfl, Nat.le_refl _, fun _ _ => rfl⟩) (fun x y _ h => h) (fun x y hx hs => hx.trans (hs.mono hx.size)) (by kernel_rfl) (by kernel_rfl) ?_ ?_
              · exact keepsR_n (fun _ _ _ h _ _ => h) (keepsR_n (fun _ _ _ h _ _ => h) (keepsR_n (fun _ _ _ h _ _ => h) (keepsR_n (fun _ _ _ h _ _ => h) (keepsR_n (fun _ _ _ h _ _ => h) (keepsR_n (fun _ _ _ h _ _ => h) (keepsR_n (fun _ _ _ h _ _ => h) (keepsR_n (fun _ _ _ h _ _ => h) (keepsR_n (fun _ _ _ h _ _ => h) (keepsR_n (fun _ _ _ h _ _ => h) (keepsR_n (fun _ _ _ h _ _ => h) (keepsR_n (fun _ _ _ h _ _ => h) (keepsR_n (fun _ _ _ h _ _ => h) (keepsR_n (fun _ _ _ h _ _ => h) (keepsR_n (fun _ _ _ h _ _ => h) (keepsR_n (fun _ _ _ h _ _ => h) (keepsR_n (fun v x y h _ hs => Own.below h hs (Nat.le_refl _)) (keepsR_n (fun _ _ _ h _ _ => h) (keepsR_n (fun _ _ _ h _ _ => h) (keepsR_nil)))))))))))))))))))
              · refine .cons (owed7_go ?_) (.cons (owed7_go ?_) (.cons (owed7_go ?_) (.cons (owed7_go ?_) (.cons (owed7_go ?_) (.cons (owed7_go ?_) (.cons (owed7_go ?_) (.cons (owed7_go ?_) (.cons (owed7_go ?_) (.cons (owed7_go ?_) (.cons (owed7_go ?_) (.cons (owed7_go ?_) (.cons (owed7_go ?_) (.cons (owed7_go ?_) (.cons (owed7_go ?_) (.cons (owed7_go ?_) (.cons (owed7_go ?_) (.cons (owed7_go ?_) (.cons (owed7_go ?_) (.nil)))))))))))))))))))
                · intro a wx hbx hq ho hf
                  have hbx : Below wr.heap.size wr wx := hbx
                  have hbq : Below wr.heap.size wr wx := hq (by kernel_rfl)
                  clear hq
                  refine ⟨rfl, ?_⟩
                  intro K hK
                  have e0 : a.tmps[0]?.getD undef = .slice (some ⟨b1, f1, none⟩) n q1 := ho 0 (by kernel_rfl)
                  go_simp
                  exact hK _ _ rfl (stepR_no rfl (Below.refl _ _))
                · intro a wx hbx hq ho hf
                  have hbx : Below wr.heap.size wr wx := hbx
                  have hbq : Below wr.heap.size wr wx := hq (by kernel_rfl)
                  clear hq
                  refine ⟨rfl, ?_⟩
                  intro K hK
                  have e0 : a.tmps[5]?.getD undef = .int .i64 (i : Nat) := ho 5 (by kernel_rfl)
                  go_simp
                  exact hK _ _ rfl (stepR_no rfl (Below.refl _ _))
                · intro a wx hbx hq ho hf
                  have hbx : Below wr.heap.size wr wx := hbx
                  have hbq : Below wr.heap.size wr wx := hq (by kernel_rfl)
                  clear hq
                  refine ⟨rfl, ?_⟩
                  intro K hK
                  have e0 : a.tmps[25]?.getD undef = .slice (some ⟨b1, f1, none⟩) n q1 := hf.1
                  have e1 : a.tmps[26]?.getD undef = .int .i64 (i : Nat) := hf.2.1
                  go_simp
                  exact hK _ _ rfl (stepR_no rfl (Below.refl _ _))
                · intro a wx hbx hq ho hf
                  have hbx : Below wr.heap.size wr wx := hbx
                  have hbq : Below wr.heap.size wr wx := hq (by kernel_rfl)
                  clear hq
                  refine ⟨rfl, ?_⟩
                  intro K hK
                  have e0 : a.tmps[27]?.getD undef = .pointer (some ⟨b1, f1 + i, none⟩) := hf.1
                  have d1 := (hbq.cell (p := ⟨b1, f1 + i, none⟩) hl1).trans kc1
                  go_simp
                  exact hK _ _ rfl (stepR_no rfl (Below.refl _ _))
                · intro a wx hbx hq ho hf
                  have hbx : Below wr.heap.size wr wx := hbx
                  have hbq : Below wr.heap.size wr wx := hq (by kernel_rfl)
                  clear hq
                  refine ⟨rfl, ?_⟩
                  intro K hK
                  have e0 : a.tmps[1]?.getD undef = .slice (some ⟨b2, f2, none⟩) m q2 := ho 1 (by kernel_rfl)
                  go_simp
                  exact hK _ _ rfl (stepR_no rfl (Below.refl _ _))
                · intro a wx hbx hq ho hf
                  have hbx : Below wr.heap.size wr wx := hbx
                  have hbq : Below wr.heap.size wr wx := hq (by kernel_rfl)
                  clear hq
                  refine ⟨rfl, ?_⟩
                  intro K hK
                  have e0 : a.tmps[7]?.getD undef = .int .i64 (k : Nat) := ho 7 (by kernel_rfl)
                  go_simp
                  exact hK _ _ rfl (stepR_no rfl (Below.refl _ _))
                · intro a wx hbx hq ho hf
                  have hbx : Below wr.heap.size wr wx := hbx
                  have hbq : Below wr.heap.size wr wx := hq (by kernel_rfl)
                  clear hq
                  refine ⟨rfl, ?_⟩
                  intro K hK
                  have e0 : a.tmps[29]?.getD undef = .slice (some ⟨b2, f2, none⟩) m q2 := hf.1
                  have e1 : a.tmps[30]?.getD undef = .int .i64 (k : Nat) := hf.2.1
                  go_simp
                  exact hK _ _ rfl (stepR_no rfl (Below.refl _ _))
                · intro a wx hbx hq ho hf
                  have hbx : Below wr.heap.size wr wx := hbx
                  have hbq : Below wr.heap.size wr wx := hq (by kernel_rfl)
                  clear hq
                  refine ⟨rfl, ?_⟩
                  intro K hK
                  have e0 : a.tmps[31]?.getD undef = .pointer (some ⟨b2, f2 + k, none⟩) := hf.1
                  have d1 := (hbq.cell (p := ⟨b2, f2 + k, none⟩) hl2).trans kc2
                  go_simp
                  exact hK _ _ rfl (stepR_no rfl (Below.refl _ _))
                · intro a wx hbx hq ho hf
                  have hbx : Below wr.heap.size wr wx := hbx
                  have hbq : Below wr.heap.size wr wx := hq (by kernel_rfl)
                  clear hq
                  refine ⟨rfl, ?_⟩
                  intro K hK
                  have e0 : a.tmps[28]?.getD undef = .slice r1 r2 r3 := hf.1
                  have e1 : a.tmps[32]?.getD undef = .slice s1 s2 s3 := hf.2.1
                  go_simp
                  refine (HS1.out wx hbq).mono ?_
                  rintro e w2 ⟨rfl, n9, rfl⟩
                  exact hK _ _ rfl (stepR_no rfl (below_drewN' (Below.refl _ _) _))
                · intro a wx hbx hq ho hf
                  have hbx : Below wr.heap.size wr wx := hbx
                  have hbq : Below wr.heap.size wr wx := hq (by kernel_rfl)
                  clear hq
                  refine ⟨rfl, ?_⟩
                  intro K hK
                  have e0 : a.tmps[33]?.getD undef = .bool false := hf.1
                  go_simp
                  exact hK _ _ rfl (stepR_no rfl (Below.refl _ _))
                · intro a wx hbx hq ho hf
                  have hbx : Below wr.heap.size wr wx := hbx
                  have hbq : Below wr.heap.size wr wx := hq (by kernel_rfl)
                  clear hq
                  refine ⟨rfl, ?_⟩
                  intro K hK
                  have e0 : a.tmps[34]?.getD undef = .bool true := hf.1
                  go_simp
                  exact hK _ _ rfl (stepR_no rfl (Below.refl _ _))
                · intro a wx hbx hq ho hf
                  have hbx : Below wr.heap.size wr wx := hbx
                  have hbq : Below wr.heap.size wr wx := hq (by kernel_rfl)
                  clear hq
                  refine ⟨wanted_slot (j := 10) (b := true) (s := 35) rfl rfl rfl (hf.1), ?_⟩
                  intro K hK
                  have e0 : a.tmps[6]?.getD undef = .slice h1 h2 h3 := ho 6 (by kernel_rfl)
                  go_simp
                  exact hK _ _ rfl (stepR_no rfl (Below.refl _ _))
                · intro a wx hbx hq ho hf
                  have hbx : Below wr.heap.size wr wx := hbx
                  have hbq : Below wr.heap.size wr wx := hq (by kernel_rfl)
                  clear hq
                  refine ⟨wanted_slot (j := 10) (b := true) (s := 35) rfl rfl rfl (hf.1), ?_⟩
                  intro K hK
                  have e0 : a.tmps[1]?.getD undef = .slice (some ⟨b2, f2, none⟩) m q2 := ho 1 (by kernel_rfl)
                  go_simp
                  exact hK _ _ rfl (stepR_no rfl (Below.refl _ _))
                · intro a wx hbx hq ho hf
                  have hbx : Below wr.heap.size wr wx := hbx
                  have hbq : Below wr.heap.size wr wx := hq (by kernel_rfl)
                  clear hq
                  refine ⟨wanted_slot (j := 10) (b := true) (s := 35) rfl rfl rfl (hf.1), ?_⟩
                  intro K hK
                  have e0 : a.tmps[7]?.getD undef = .int .i64 (k : Nat) := ho 7 (by kernel_rfl)
                  go_simp
                  exact hK _ _ rfl (stepR_no rfl (Below.refl _ _))
                · intro a wx hbx hq ho hf
                  have hbx : Below wr.heap.size wr wx := hbx
                  have hbq : Below wr.heap.size wr wx := hq (by kernel_rfl)
                  clear hq
                  refine ⟨wanted_slot (j := 10) (b := true) (s := 35) rfl rfl rfl (hf.2.2.1), ?_⟩
                  intro K hK
                  have e0 : a.tmps[37]?.getD undef = .slice (some ⟨b2, f2, none⟩) m q2 := hf.1
                  have e1 : a.tmps[38]?.getD undef = .int .i64 (k : Nat) := hf.2.1
                  go_simp
                  exact hK _ _ rfl (stepR_no rfl (Below.refl _ _))
                · intro a wx hbx hq ho hf
                  have hbx : Below wr.heap.size wr wx := hbx
                  have hbq : Below wr.heap.size wr wx := hq (by kernel_rfl)
                  clear hq
                  refine ⟨wanted_slot (j := 10) (b := true) (s := 35) rfl rfl rfl (hf.2.1), ?_⟩
                  intro K hK
                  have e0 : a.tmps[39]?.getD undef = .pointer (some ⟨b2, f2 + k, none⟩) := hf.1
                  have d1 := (hbq.cell (p := ⟨b2, f2 + k, none⟩) hl2).trans kc2
                  go_simp
                  exact hK _ _ rfl (stepR_no rfl (Below.refl _ _))
                · intro a wx hbx hq ho hf
                  have hbx : Below wr.heap.size wr wx := hbx
                  have hbq : Below wr.heap.size wr wx := hq (by kernel_rfl)
                  clear hq
                  refine ⟨wanted_slot (j := 10) (b := true) (s := 35) rfl rfl rfl (hf.2.1), ?_⟩
                  intro K hK
                  have e0 : a.tmps[40]?.getD undef = .slice s1 s2 s3 := hf.1
                  go_simp
                  refine (HD1.out wx hbq).mono ?_
                  rintro e w2 ⟨v9, rfl, hown, hb2⟩
                  exact hK _ _ (hown.mono hbq.size) (stepR_no rfl hb2)
                · intro a wx hbx hq ho hf
                  have hbx : Below wr.heap.size wr wx := hbx
                  have hbq : Below wr.heap.size wr wx := hq (by kernel_rfl)
                  clear hq
                  refine ⟨wanted_slot (j := 10) (b := true) (s := 35) rfl rfl rfl (hf.2.2.2.1), ?_⟩
                  intro K hK
                  have e0 : a.tmps[36]?.getD undef = .slice h1 h2 h3 := hf.1
                  have o1 : Own wx wr.heap.size 5 (a.tmps[41]?.getD undef) (bvs (shaF Y)) := hf.2.1
                  obtain ⟨v1, hv1⟩ : ∃ v, v = a.tmps[41]?.getD undef := ⟨_, rfl⟩
                  rw [← hv1] at o1
                  have e1 := hv1.symm
                  clear hv1
                  go_simp
                  refine (HS2.out wx hbq v1 o1.rd).mono ?_
                  rintro e w2 ⟨rfl, n9, rfl⟩
                  exact hK _ _ rfl (stepR_no rfl (below_drewN' (Below.refl _ _) _))
                · intro a wx hbx hq ho hf
                  have hbx : Below wr.heap.size wr wx := hbx
                  have hbq : Below wr.heap.size wr wx := hq (by kernel_rfl)
                  clear hq
                  refine ⟨rfl, ?_⟩
                  intro K hK
                  have e0 : a.tmps[35]?.getD undef = .bool true := hf.1
                  have e1 : a.tmps[42]?.getD undef = .bool false := hf.2.1
                  go_simp
                  exact hK _ _ rfl (stepR_no rfl (Below.refl _ _))
              · rintro f w9 hb9 hfin
                have hb9 : Below wr.heap.size wr w9 := hb9
                have S43 : f 43 = .bool false := hfin.2.2.2.2.2.2.2.2.2.2.2.2.2.2.2.2.2.2.1
                clear hfin
                simp only [frameOf, dstsOf, zipF, List.filterMap_cons, List.filterMap_nil, List.contains_cons, List.contains_nil, Nat.reduceBEq, Nat.reduceAdd, Bool.or_false, Bool.or_true, cond_true, cond_false]
                rw [S43]
                clear S43
                have HB9 := Lib.hid (HBK.out.trans (hb9.mono HBK.out.size))
                have HH9 := Lib.hid (HH.out.below hb9 (Nat.le_refl _))
                clear hb9
                go_wp2_with fail
                go_roundg (gk - 1)
                case measure => have := HK.out; omega
                case rel =>
                  refine ⟨k + 1, by have := HK.out; omega, by go_num, HH9.out, HB9.out, fun j hj => ?_⟩
                  by_cases e : j = k
                  · rw [e]; exact HBAD.out
                  · exact HKA.out j (by omega)
        · obtain rfl : k = m := by omega
          have hlk' : decide (k < k) = false := decide_eq_false hlk
          have HB4 := Lib.hid (HBI.out.trans (hbk.mono HBI.out.size))
          clear hk hh hbk hka hlk
          go_wp2_with fail
          go_roundg (go - 1)
          case measure => have := HI.out; omega
          case rel =>
            refine ⟨i + 1, by have := HI.out; omega, by go_num, HB4.out, fun j hj k2 hk2 => ?_⟩
            by_cases e : j = i
            · rw [e, ← HX.out]; exact HKA.out k2 hk2
            · exact HALL.out j (by omega) k2 hk2
    · obtain rfl : i = n := by omega
      have hlt' : decide (i < i) = false := decide_eq_false hlt
      have HF := Lib.hid (HNO.out hall)
      clear hi hb hall hlt
      go_wp2_with fail
      go_ret
      exact ⟨retB HF.out, HBI.out⟩
end Go.Proofs.Ytohldijomcljkaa
