/- Walks: WirePuts. -/
import Derived.Test.YtkihcngllhjabaaWireFar
import Derived.Deep.LoopGhost
namespace Go.Proofs.Ytkihcngllhjabaa
open Go.RowKit WireM
set_option linter.unusedVariables false
theorem same_self (v v' : Value) (L : List Nat) (w : World) (h : Rd w v (bvs L)) (h' : Rd w v' (bvs L)) (hL : ∀ n ∈ L, n < 256) :
    Calls Try.prog 16 #[v, v'] w fun e w' => e = .returned (.bool true) ∧ ∃ n, w' = w.drewN n := by
  refine (same_any v v' L L w h h' hL hL).mono ?_
  rintro e w' ⟨he, hw⟩
  rw [decide_eq_true rfl] at he
  exact ⟨he, hw⟩
/-- a number's size, if it can't be one: 0 -/
def fixD (d : ItemD) : ItemD := if d.kind = 0 ∧ mayB d.size = false then { d with size := 0 } else d
def catP (ds : List ItemD) : List Nat := (ds.map fun d => putB (fixD d)).flatten
theorem catP_snoc (ds : List ItemD) (d : ItemD) : catP (ds ++ [d]) = catP ds ++ putB (fixD d) := by simp [catP]
theorem fixD_near {d : ItemD} (h : Near d) : Near (fixD d) := by
  unfold fixD
  split
  · exact ⟨h.k0, h.k4, h.v, h.l, h.r⟩
  · exact h
theorem fixD_ok {d : ItemD} (h : ItemOk d) : ItemOk (fixD d) := by
  unfold fixD
  split
  · exact ⟨h.n, h.v, h.l, h.kind, by simp⟩
  · exact h
theorem fixD_size (d : ItemD) : (fixD d).kind = 0 → (fixD d).size = 0 ∨ mayB (fixD d).size = true := by
  unfold fixD
  split
  · intro _; exact .inl rfl
  · rename_i h
    intro hk
    right
    by_cases hm : mayB d.size = true
    · exact hm
    · exact absurd ⟨hk, by simpa using hm⟩ h
theorem fixD_size8 (d : ItemD) : (fixD d).kind = 0 → 0 ≤ (fixD d).size ∧ (fixD d).size ≤ 8 := by
  intro h
  rcases fixD_size d h with h1 | h1
  · rw [h1]; omega
  · have := of_decide_eq_true h1; omega
theorem catP_len : ∀ (ds : List ItemD), (∀ d ∈ ds, Near d) → (catP ds).length ≤ ds.length * 5000 := by
  intro ds
  induction ds with
  | nil => intro _; simp [catP]
  | cons d ds ih =>
    intro h
    have h1 := ih fun q hq => h q (by simp [hq])
    have h2 := putB_len (fixD_near (h d (by simp))) (fun hk => by have := fixD_size8 d hk; omega)
    simp only [catP, List.map_cons, List.flatten_cons, List.length_append, List.length_cons] at h1 ⊢
    omega
theorem catP_lt : ∀ (ds : List ItemD), (∀ d ∈ ds, Near d) → (∀ d ∈ ds, ItemOk d) → ∀ x ∈ catP ds, x < 256 := by
  intro ds h1 h2 x hx
  simp only [catP, List.mem_flatten, List.mem_map] at hx
  obtain ⟨y, ⟨d, hd, rfl⟩, hx⟩ := hx
  exact putB_lt (fixD_near (h1 d hd)) (fixD_ok (h2 d hd)) x hx
theorem ItemsR.below {w w' : World} {B : Nat} {v : Value} {ds : List ItemD} (h : ItemsR w v ds) (hb : Below B w w') (hB : w.heap.size ≤ B) : ItemsR w' v ds := by
  obtain ⟨a, cap, rfl, h1, h2, h3⟩ := h
  refine ⟨a, cap, rfl, h1, h2, ?_⟩
  intro i hi
  obtain ⟨b, off, cv, cl, rfl, hbl, c0, c1, c2, c3, c4, hv, hl⟩ := h3 i hi
  have hk : ∀ o v, w.cell? ⟨b, o, none⟩ = some v → w'.cell? ⟨b, o, none⟩ = some v := fun o v h => (hb.cell (p := ⟨b, o, none⟩) (Nat.lt_of_lt_of_le hbl hB)).trans h
  exact ⟨b, off, cv, cl, rfl, Nat.lt_of_lt_of_le hbl hb.size, hk _ _ c0, hk _ _ c1, hk _ _ c2, hk _ _ c3, hk _ _ c4, hv.below hb hB, hl.below hb hB⟩
/-- the bytes so far -/
def soFar (A : List Nat) (ds : List ItemD) (r : Nat) : List Nat := A ++ catP (ds.take r)
set_option maxRecDepth 100000 in
set_option maxHeartbeats 8000000 in
theorem wirePuts_on (v vl : Value) (A : List Nat) (ds : List ItemD) (w : World) (hv : Rd w v (bvs A)) (hA : ∀ n ∈ A, n < 256) (hl : ItemsR w vl ds) (hok : ∀ d ∈ ds, ItemOk d) (hnear : ∀ d ∈ ds, Near d) (h30 : ds.length ≤ 30) (hA3 : A.length ≤ 300) :
    Calls Try.prog 8 #[v, vl] w fun e w' => e = .returned (.bool true) ∧ Below w.heap.size w w' := by
  have HA := Lib.hid (fun w => alive01 w)
  have F := fun w h => far_any vl ds w h
  have hf : farB ds = false := by rw [farB_near hnear, decide_eq_false_iff_not]; omega
  rw [hf] at F
  have HF := Lib.hid F
  have hslen : ∀ r, (soFar A ds r).length ≤ 150300 := by
    intro r
    have := catP_len (ds.take r) (fun d hd => hnear d (List.mem_of_mem_take hd))
    have h4 : (ds.take r).length ≤ 30 := by rw [List.length_take]; omega
    rw [soFar, List.length_append]; omega
  have hslt : ∀ r, ∀ x ∈ soFar A ds r, x < 256 := by
    intro r x hx
    rw [soFar, List.mem_append] at hx
    rcases hx with hx | hx
    · exact hA x hx
    · exact catP_lt (ds.take r) (fun d hd => hnear d (List.mem_of_mem_take hd)) (fun d hd => hok d (List.mem_of_mem_take hd)) x hx
  have hssn : ∀ r (hr : r < ds.length), soFar A ds (r + 1) = soFar A ds r ++ putB (fixD ds[r]) := by
    intro r hr
    rw [soFar, soFar, List.take_succ_eq_append_getElem hr, catP_snoc, List.append_assoc]
  obtain ⟨a0, cap0, rfl, hcap0, hcap0', _⟩ := id hv
  obtain ⟨al, capl, rfl, hcl1, hcl2, hit⟩ := id hl
  rw [bvs_len] at hv hcap0 ⊢
  have HV := Lib.hid hv
  have HL := Lib.hid hl
  have HOK := Lib.hid hok
  have HNR := Lib.hid hnear
  have HSL := Lib.hid hslen
  have HST := Lib.hid hslt
  have HSS := Lib.hid hssn
  have HAL := Lib.hid hA
  clear F hf hv hl hok hnear hslen hslt hssn hit hA
  go_enter Try.func8, Try.ntmps8
  go_wp2_with fail
  refine (HA.out _).mono ?_
  rintro e w1 ⟨rfl, hb⟩
  have HB1 := Lib.hid hb
  have HV1 := Lib.hid (HV.out.below hb (Nat.le_refl _))
  have HL1 := Lib.hid (HL.out.below hb (Nat.le_refl _))
  clear hb
  go_wp2_with fail
  refine (HF.out _ HL1.out).mono ?_
  rintro e w' ⟨rfl, rfl⟩
  go_wp2_with (at_builtin; refine wpList_app rfl (.tmp 19) (.tmp 20) 22 rfl w1.heap.size 5 _ 1 bytesE _ [] rfl (Own.lit0 rfl (Nat.le_refl _)) _ (bvs A) rfl (HV1.out.alloc _) (bvs_one _) ?c2 ?c3 ?_)
  case c2 => rw [bvs_len]; simp; omega
  case c3 => simp
  rintro v5 w2 hown - hb2
  have HW := Lib.hid hown.rd
  have hb12 : Below w1.heap.size w1 w2 := ((Below.refl _ _).alloc (Nat.le_refl _) _).trans hb2
  have HB2 := Lib.hid (HB1.out.trans (hb12.mono HB1.out.size))
  have HV2 := Lib.hid (HV1.out.below hb12 (Nat.le_refl _))
  have HL2 := Lib.hid (HL1.out.below hb12 (Nat.le_refl _))
  clear hown hb2 hb12
  obtain ⟨k, hk⟩ : ∃ k, k = ds.length := ⟨_, rfl⟩
  rw [← hk] at hcl1 h30 ⊢
  have HK := Lib.hid hk
  clear hk
  go_wp2_with fail
  go_loopg [6, 7, 8] k (fun q b wv i wr => ∃ r : Nat, r + q = k ∧ i = .int .i64 (r : Int) ∧ Rd wr b (bvs (soFar A ds r)) ∧ Rd wr wv (bvs (soFar A ds r)) ∧ Below w2.heap.size w2 wr)
  case atStart =>
    have e0 : soFar A ds 0 = A := by simp [soFar, catP]
    exact ⟨0, by omega, rfl, by rw [e0]; exact HV2.out, by rw [e0]; exact HW.out, Below.refl _ _⟩
  case round =>
    obtain ⟨r, hr, rfl, hrb, hrw, hbr⟩ := hrel
    have HRB := Lib.hid hrb
    have HRW := Lib.hid hrw
    have HBR := Lib.hid hbr
    have hszr := hbr.size
    clear hrb hrw hbr
    by_cases hrk : r < k
    · have hrd : r < ds.length := by have := HK.out; omega
      have hlr := HL2.out.below HBR.out (Nat.le_refl _)
      obtain ⟨al', capl', he, _, _, hit⟩ := hlr
      obtain ⟨b, off, cv, cl, rfl, hbl, c0, c1, c2, c3, c4, hcv, hcl⟩ := hit r hrd
      simp only [Value.slice.injEq] at he
      obtain ⟨rfl, _, rfl⟩ := he
      obtain ⟨av, nv, capv, rfl⟩ : ∃ a n c, cv = .slice a n c := by obtain ⟨a, cap, e, _⟩ := hcv; exact ⟨a, _, cap, e⟩
      obtain ⟨aw, nw, capw, rfl⟩ : ∃ a n c, cl = .slice a n c := by obtain ⟨vs, ⟨a, cap, e, _⟩, _⟩ := hcl; exact ⟨a, _, cap, e⟩
      have hDn := HNR.out _ (List.getElem_mem hrd)
      have hDo := HOK.out _ (List.getElem_mem hrd)
      have hss := HSS.out r hrd
      have hsl := HSL.out r
      have hlt1 := HST.out (r + 1)
      obtain ⟨D, hD⟩ : ∃ D, D = ds[r] := ⟨_, rfl⟩
      rw [← hD] at c0 c1 c2 hcv hcl hDn hDo hss
      have hplen := putB_len (fixD_near hDn) (fun hk => by have := fixD_size8 D hk; omega)
      obtain ⟨S, hS⟩ : ∃ S, S = soFar A ds r := ⟨_, rfl⟩
      rw [← hS] at HRB HRW hsl hss
      -- what is put
      have PUT : ∀ W b', Rd W b' (bvs S) → Below wr.heap.size wr W → Calls Try.prog 49 #[b', .agg #[.int .i64 (fixD D).kind, .int .i64 (fixD D).size, .int .u64 ((fixD D).n : Nat), .slice av nv capv, .slice aw nw capw]] W fun e w' => ∃ v', e = .returned v' ∧ Own w' W.heap.size 5 v' (bvs (S ++ putB (fixD D))) ∧ Below W.heap.size W w' := by
        intro W b' hb' hW
        refine put_any b' S (fixD D) _ W hb' (by omega) ⟨_, _, rfl, ?_, ?_⟩ (fixD_ok hDo) (fixD_near hDn) (fixD_size D)
        · have : (fixD D).v = D.v := by unfold fixD; split <;> rfl
          rw [this]; exact hcv.below hW (Nat.le_refl _)
        · have : (fixD D).l = D.l := by unfold fixD; split <;> rfl
          rw [this]; exact hcl.below hW (Nat.le_refl _)
      have RPUT : ∀ W, Below wr.heap.size wr W → Calls Try.prog 50 #[.agg #[.int .i64 (fixD D).kind, .int .i64 (fixD D).size, .int .u64 ((fixD D).n : Nat), .slice av nv capv, .slice aw nw capw]] W fun e w' => ∃ v', e = .returned v' ∧ Rd w' v' (bvs (putB (fixD D))) ∧ Below W.heap.size W w' := by
        intro W hW
        refine rput_any (fixD D) _ W ⟨_, _, rfl, ?_, ?_⟩ (fixD_ok hDo) (fixD_near hDn) (fixD_size8 D)
        · have : (fixD D).v = D.v := by unfold fixD; split <;> rfl
          rw [this]; exact hcv.below hW (Nat.le_refl _)
        · have : (fixD D).l = D.l := by unfold fixD; split <;> rfl
          rw [this]; exact hcl.below hW (Nat.le_refl _)
      have en : (fixD D).n = D.n := by unfold fixD; split <;> rfl
      have ek : (fixD D).kind = D.kind := by unfold fixD; split <;> rfl
      rw [en, ek] at PUT RPUT
      have hsz : (D.kind ≠ 0 ∧ (fixD D).size = D.size) ∨ (D.kind = 0 ∧ (fixD D).size = D.size ∧ (D.size = 1 ∨ D.size = 2 ∨ D.size = 4 ∨ D.size = 8)) ∨ (D.kind = 0 ∧ (fixD D).size = 0 ∧ D.size ≠ 1 ∧ D.size ≠ 2 ∧ D.size ≠ 4 ∧ D.size ≠ 8) := by
        unfold fixD
        by_cases h0 : D.kind = 0
        · by_cases hm : mayB D.size = true
          · rw [if_neg (by rw [hm]; simp)]
            exact .inr (.inl ⟨h0, rfl, of_decide_eq_true hm⟩)
          · have hm' : mayB D.size = false := by simpa using hm
            rw [if_pos ⟨h0, hm'⟩]
            have := of_decide_eq_false hm'
            exact .inr (.inr ⟨h0, rfl, by omega, by omega, by omega, by omega⟩)
        · rw [if_neg (fun h => h0 h.1)]
          exact .inl ⟨h0, rfl⟩
      obtain ⟨Q, hQ⟩ : ∃ Q, Q = putB (fixD D) := ⟨_, rfl⟩
      rw [← hQ] at PUT RPUT hplen hss
      obtain ⟨fs, hfs⟩ : ∃ fs, fs = (fixD D).size := ⟨_, rfl⟩
      rw [← hfs] at PUT RPUT hsz
      obtain ⟨kd, hkd⟩ : ∃ kd, kd = D.kind := ⟨_, rfl⟩
      rw [← hkd] at PUT RPUT hsz c0
      obtain ⟨sz, hszd⟩ : ∃ sz, sz = D.size := ⟨_, rfl⟩
      rw [← hszd] at hsz c1
      obtain ⟨nn, hnn⟩ : ∃ nn, nn = D.n := ⟨_, rfl⟩
      rw [← hnn] at PUT RPUT c2
      have HPUT := Lib.hid PUT
      have HRPUT := Lib.hid RPUT
      have HSS1 := Lib.hid hss
      have HLT1 := Lib.hid hlt1
      have hrk' : decide ((r : Int) < (k : Int)) = true := by rw [decide_eq_true_iff]; omega
      clear hcv hcl hDn hDo hss hlt1 PUT RPUT en ek hQ hfs hkd hszd hnn hD hS hit
      rcases hsz with ⟨hk0, rfl⟩ | ⟨rfl, rfl, hs4⟩ | ⟨rfl, rfl, n1, n2, n4, n8⟩
      · have hk0' : (kd == 0) = false := by simp [hk0]
        clear hk0
        go_wp2_with fail
        refine (HPUT.out _ _ (HRB.out.alloc _) ((Below.refl _ _).alloc (Nat.le_refl _) _)).mono ?_
        rintro e w5 ⟨v5', rfl, hown5, hb5⟩
        have hbk := hb5.block wr.heap.size (by simp)
        rw [heap_alloc_new] at hbk
        have x0 := cell_of_row _ _ 0 _ _ _ hbk
        have x1 := cell_of_row _ _ 1 _ _ _ hbk
        have x2 := cell_of_row _ _ 2 _ _ _ hbk
        have x3 := cell_of_row _ _ 3 _ _ _ hbk
        have x4 := cell_of_row _ _ 4 _ _ _ hbk
        simp only [List.getElem?_toArray, List.getElem?_cons_zero, List.getElem?_cons_succ] at x0 x1 x2 x3 x4
        have hbW : Below wr.heap.size wr w5 := ((Below.refl _ _).alloc (Nat.le_refl _) _).trans (hb5.mono (by simp))
        have hgx : wr.heap.size < w5.heap.size := by have := hb5.size; simp at this; omega
        have HR5 := Lib.hid hown5.rd
        have HB5 := Lib.hid hbW
        have HRK := Lib.hid ((HRW.out.below hbW (Nat.le_refl _)).k (B := w5.heap.size) (Nat.le_refl _))
        have HRP := Lib.hid (fun W (h : Below w5.heap.size w5 W) => HRPUT.out W (Below.next hbW h))
        clear hown5 hb5 hbk hbW c0 c1 c2 c3 c4
        go_wp2_with fail
        go_region_law (first
          | (refine step_app rfl (.tmp 61) (.tmp 62) 22 rfl w5.heap.size 5 _ 1 bytesE _ [] rfl ?owna0 _ (bvs S) rfl ?rda0 (bvs_one _) ?lena0 ?basea0 ?_
             case owna0 => first | exact Own.drew (Own.lit0 rfl (Nat.le_refl _)) | exact Own.lit0 rfl hbC.size | exact (Own.drew (Own.lit0 (w := w5) rfl (Nat.le_refl _))).below hbC0 (Nat.le_refl _)
             case rda0 => exact (HRK.out.keep fun p hp => Below.cell (by first | exact below_drewN' ((Below.refl _ _).alloc (Nat.le_refl _) _) 1 | exact hbC.alloc hbC.size _ | exact hbC) hp).rd
             case lena0 => rw [bvs_len]; simp; omega
             case basea0 => first | exact (below_drewN' ((Below.refl _ _).alloc (Nat.le_refl _) _) 1 : Below w5.heap.size w5 _).size | exact (hbC.alloc hbC.size _).size | exact hbC.size
             rintro v6 w6 hown6 hb6
             have hbA : Below w5.heap.size w5 w6 := Below.trans (by first | exact below_drewN' ((Below.refl _ _).alloc (Nat.le_refl _) _) 1 | exact hbC.alloc hbC.size _ | exact hbC) hb6
             have y0 := (hbA.cell (p := ⟨wr.heap.size, 0, none⟩) hgx).trans x0
             have y1 := (hbA.cell (p := ⟨wr.heap.size, 1, none⟩) hgx).trans x1
             have y2 := (hbA.cell (p := ⟨wr.heap.size, 2, none⟩) hgx).trans x2
             have y3 := (hbA.cell (p := ⟨wr.heap.size, 3, none⟩) hgx).trans x3
             have y4 := (hbA.cell (p := ⟨wr.heap.size, 4, none⟩) hgx).trans x4)
          | (refine step_app rfl (.tmp 63) (.tmp 65) 22 rfl w5.heap.size 5 _ 1 bytesE _ (bvs S) rfl ?ownb0 _ (bvs Q) rfl ?rdb0 (bvs_one _) ?lenb0 ?baseb0 ?_
             case ownb0 => exact hown6.below hbC0 (Nat.le_refl _)
             case rdb0 => exact hr7
             case lenb0 => simp only [bvs_len]; omega
             case baseb0 => exact hbC.size
             rintro v8 w8 hown8 hb8
             have hb8' : Below w5.heap.size w5 w8 := hbC.trans hb8)
          | (go_simp
             go_at_call 50
             refine (HRP.out _ (by first | exact hbA | exact below_drewN' ((Below.refl _ _).alloc (Nat.le_refl _) _) 1 | exact below_drewN' (Below.refl _ _) 1)).mono ?_
             rintro e w7 ⟨v7, rfl, hr7, hbC0⟩
             have hbC : Below w5.heap.size w5 w7 := Below.next (by first | exact hbA | exact below_drewN' ((Below.refl _ _).alloc (Nat.le_refl _) _) 1 | exact below_drewN' (Below.refl _ _) 1) hbC0
             go_simp))
        all_goals
          have HR8 := Lib.hid hown8.rd
          have HB8 := Lib.hid hb8'
          have HR5' := Lib.hid (HR5.out.below hb8' (Nat.le_refl _))
          have HBT := Lib.hid (Below.next HBR.out (Below.next HB5.out hb8'))
          clear hown8 hb8' hown6 hb6 hbA hbC hbC0 hb8 hr7 y0 y1 y2 y3 y4
          have hl8 : ∀ x ∈ S ++ Q, x < 256 := by rw [← HSS1.out]; exact HLT1.out
          have hr8 := HR8.out
          rw [← bvs_append] at hr8
          have HSAME := Lib.hid (same_self _ _ _ _ HR5'.out hr8 hl8)
          clear hr8 hl8
          go_wp2_with fail
          refine HSAME.out.mono ?_
          rintro e w9 ⟨rfl, q, rfl⟩
          go_wp2_with fail
          go_roundg (gk - 1)
          case measure => omega
          case rel =>
            refine ⟨r + 1, by omega, by go_num, ?_, ?_, Below.draws HBT.out _⟩
            · rw [HSS1.out]; exact HR5'.out.drewN _
            · rw [HSS1.out, bvs_append]; exact HR8.out.drewN _
      · rcases hs4 with rfl | rfl | rfl | rfl
        · go_wp2_with fail
          refine (HPUT.out _ _ (HRB.out.alloc _) ((Below.refl _ _).alloc (Nat.le_refl _) _)).mono ?_
          rintro e w5 ⟨v5', rfl, hown5, hb5⟩
          have hbk := hb5.block wr.heap.size (by simp)
          rw [heap_alloc_new] at hbk
          have x0 := cell_of_row _ _ 0 _ _ _ hbk
          have x1 := cell_of_row _ _ 1 _ _ _ hbk
          have x2 := cell_of_row _ _ 2 _ _ _ hbk
          have x3 := cell_of_row _ _ 3 _ _ _ hbk
          have x4 := cell_of_row _ _ 4 _ _ _ hbk
          simp only [List.getElem?_toArray, List.getElem?_cons_zero, List.getElem?_cons_succ] at x0 x1 x2 x3 x4
          have hbW : Below wr.heap.size wr w5 := ((Below.refl _ _).alloc (Nat.le_refl _) _).trans (hb5.mono (by simp))
          have hgx : wr.heap.size < w5.heap.size := by have := hb5.size; simp at this; omega
          have HR5 := Lib.hid hown5.rd
          have HB5 := Lib.hid hbW
          have HRK := Lib.hid ((HRW.out.below hbW (Nat.le_refl _)).k (B := w5.heap.size) (Nat.le_refl _))
          have HRP := Lib.hid (fun W (h : Below w5.heap.size w5 W) => HRPUT.out W (Below.next hbW h))
          clear hown5 hb5 hbk hbW c0 c1 c2 c3 c4
          go_wp2_with fail
          go_region_law (first
            | (refine step_app rfl (.tmp 61) (.tmp 62) 22 rfl w5.heap.size 5 _ 1 bytesE _ [] rfl ?ownac1 _ (bvs S) rfl ?rdac1 (bvs_one _) ?lenac1 ?baseac1 ?_
               case ownac1 => first | exact Own.drew (Own.lit0 rfl (Nat.le_refl _)) | exact Own.lit0 rfl hbC.size | exact (Own.drew (Own.lit0 (w := w5) rfl (Nat.le_refl _))).below hbC0 (Nat.le_refl _)
               case rdac1 => exact (HRK.out.keep fun p hp => Below.cell (by first | exact below_drewN' ((Below.refl _ _).alloc (Nat.le_refl _) _) 1 | exact hbC.alloc hbC.size _ | exact hbC) hp).rd
               case lenac1 => rw [bvs_len]; simp; omega
               case baseac1 => first | exact (below_drewN' ((Below.refl _ _).alloc (Nat.le_refl _) _) 1 : Below w5.heap.size w5 _).size | exact (hbC.alloc hbC.size _).size | exact hbC.size
               rintro v6 w6 hown6 hb6
               have hbA : Below w5.heap.size w5 w6 := Below.trans (by first | exact below_drewN' ((Below.refl _ _).alloc (Nat.le_refl _) _) 1 | exact hbC.alloc hbC.size _ | exact hbC) hb6
               have y0 := (hbA.cell (p := ⟨wr.heap.size, 0, none⟩) hgx).trans x0
               have y1 := (hbA.cell (p := ⟨wr.heap.size, 1, none⟩) hgx).trans x1
               have y2 := (hbA.cell (p := ⟨wr.heap.size, 2, none⟩) hgx).trans x2
               have y3 := (hbA.cell (p := ⟨wr.heap.size, 3, none⟩) hgx).trans x3
               have y4 := (hbA.cell (p := ⟨wr.heap.size, 4, none⟩) hgx).trans x4)
            | (refine step_app rfl (.tmp 63) (.tmp 65) 22 rfl w5.heap.size 5 _ 1 bytesE _ (bvs S) rfl ?ownbc1 _ (bvs Q) rfl ?rdbc1 (bvs_one _) ?lenbc1 ?basebc1 ?_
               case ownbc1 => exact hown6.below hbC0 (Nat.le_refl _)
               case rdbc1 => exact hr7
               case lenbc1 => simp only [bvs_len]; omega
               case basebc1 => exact hbC.size
               rintro v8 w8 hown8 hb8
               have hb8' : Below w5.heap.size w5 w8 := hbC.trans hb8)
            | (go_simp
               go_at_call 50
               refine (HRP.out _ (by first | exact hbA | exact below_drewN' ((Below.refl _ _).alloc (Nat.le_refl _) _) 1 | exact below_drewN' (Below.refl _ _) 1)).mono ?_
               rintro e w7 ⟨v7, rfl, hr7, hbC0⟩
               have hbC : Below w5.heap.size w5 w7 := Below.next (by first | exact hbA | exact below_drewN' ((Below.refl _ _).alloc (Nat.le_refl _) _) 1 | exact below_drewN' (Below.refl _ _) 1) hbC0
               go_simp))
          all_goals
            have HR8 := Lib.hid hown8.rd
            have HB8 := Lib.hid hb8'
            have HR5' := Lib.hid (HR5.out.below hb8' (Nat.le_refl _))
            have HBT := Lib.hid (Below.next HBR.out (Below.next HB5.out hb8'))
            clear hown8 hb8' hown6 hb6 hbA hbC hbC0 hb8 hr7 y0 y1 y2 y3 y4
            have hl8 : ∀ x ∈ S ++ Q, x < 256 := by rw [← HSS1.out]; exact HLT1.out
            have hr8 := HR8.out
            rw [← bvs_append] at hr8
            have HSAME := Lib.hid (same_self _ _ _ _ HR5'.out hr8 hl8)
            clear hr8 hl8
            go_wp2_with fail
            refine HSAME.out.mono ?_
            rintro e w9 ⟨rfl, q, rfl⟩
            go_wp2_with fail
            go_roundg (gk - 1)
            case measure => omega
            case rel =>
              refine ⟨r + 1, by omega, by go_num, ?_, ?_, Below.draws HBT.out _⟩
              · rw [HSS1.out]; exact HR5'.out.drewN _
              · rw [HSS1.out, bvs_append]; exact HR8.out.drewN _
        · go_wp2_with fail
          refine (HPUT.out _ _ (HRB.out.alloc _) ((Below.refl _ _).alloc (Nat.le_refl _) _)).mono ?_
          rintro e w5 ⟨v5', rfl, hown5, hb5⟩
          have hbk := hb5.block wr.heap.size (by simp)
          rw [heap_alloc_new] at hbk
          have x0 := cell_of_row _ _ 0 _ _ _ hbk
          have x1 := cell_of_row _ _ 1 _ _ _ hbk
          have x2 := cell_of_row _ _ 2 _ _ _ hbk
          have x3 := cell_of_row _ _ 3 _ _ _ hbk
          have x4 := cell_of_row _ _ 4 _ _ _ hbk
          simp only [List.getElem?_toArray, List.getElem?_cons_zero, List.getElem?_cons_succ] at x0 x1 x2 x3 x4
          have hbW : Below wr.heap.size wr w5 := ((Below.refl _ _).alloc (Nat.le_refl _) _).trans (hb5.mono (by simp))
          have hgx : wr.heap.size < w5.heap.size := by have := hb5.size; simp at this; omega
          have HR5 := Lib.hid hown5.rd
          have HB5 := Lib.hid hbW
          have HRK := Lib.hid ((HRW.out.below hbW (Nat.le_refl _)).k (B := w5.heap.size) (Nat.le_refl _))
          have HRP := Lib.hid (fun W (h : Below w5.heap.size w5 W) => HRPUT.out W (Below.next hbW h))
          clear hown5 hb5 hbk hbW c0 c1 c2 c3 c4
          go_wp2_with fail
          go_region_law (first
            | (refine step_app rfl (.tmp 61) (.tmp 62) 22 rfl w5.heap.size 5 _ 1 bytesE _ [] rfl ?ownac2 _ (bvs S) rfl ?rdac2 (bvs_one _) ?lenac2 ?baseac2 ?_
               case ownac2 => first | exact Own.drew (Own.lit0 rfl (Nat.le_refl _)) | exact Own.lit0 rfl hbC.size | exact (Own.drew (Own.lit0 (w := w5) rfl (Nat.le_refl _))).below hbC0 (Nat.le_refl _)
               case rdac2 => exact (HRK.out.keep fun p hp => Below.cell (by first | exact below_drewN' ((Below.refl _ _).alloc (Nat.le_refl _) _) 1 | exact hbC.alloc hbC.size _ | exact hbC) hp).rd
               case lenac2 => rw [bvs_len]; simp; omega
               case baseac2 => first | exact (below_drewN' ((Below.refl _ _).alloc (Nat.le_refl _) _) 1 : Below w5.heap.size w5 _).size | exact (hbC.alloc hbC.size _).size | exact hbC.size
               rintro v6 w6 hown6 hb6
               have hbA : Below w5.heap.size w5 w6 := Below.trans (by first | exact below_drewN' ((Below.refl _ _).alloc (Nat.le_refl _) _) 1 | exact hbC.alloc hbC.size _ | exact hbC) hb6
               have y0 := (hbA.cell (p := ⟨wr.heap.size, 0, none⟩) hgx).trans x0
               have y1 := (hbA.cell (p := ⟨wr.heap.size, 1, none⟩) hgx).trans x1
               have y2 := (hbA.cell (p := ⟨wr.heap.size, 2, none⟩) hgx).trans x2
               have y3 := (hbA.cell (p := ⟨wr.heap.size, 3, none⟩) hgx).trans x3
               have y4 := (hbA.cell (p := ⟨wr.heap.size, 4, none⟩) hgx).trans x4)
            | (refine step_app rfl (.tmp 63) (.tmp 65) 22 rfl w5.heap.size 5 _ 1 bytesE _ (bvs S) rfl ?ownbc2 _ (bvs Q) rfl ?rdbc2 (bvs_one _) ?lenbc2 ?basebc2 ?_
               case ownbc2 => exact hown6.below hbC0 (Nat.le_refl _)
               case rdbc2 => exact hr7
               case lenbc2 => simp only [bvs_len]; omega
               case basebc2 => exact hbC.size
               rintro v8 w8 hown8 hb8
               have hb8' : Below w5.heap.size w5 w8 := hbC.trans hb8)
            | (go_simp
               go_at_call 50
               refine (HRP.out _ (by first | exact hbA | exact below_drewN' ((Below.refl _ _).alloc (Nat.le_refl _) _) 1 | exact below_drewN' (Below.refl _ _) 1)).mono ?_
               rintro e w7 ⟨v7, rfl, hr7, hbC0⟩
               have hbC : Below w5.heap.size w5 w7 := Below.next (by first | exact hbA | exact below_drewN' ((Below.refl _ _).alloc (Nat.le_refl _) _) 1 | exact below_drewN' (Below.refl _ _) 1) hbC0
               go_simp))
          all_goals
            have HR8 := Lib.hid hown8.rd
            have HB8 := Lib.hid hb8'
            have HR5' := Lib.hid (HR5.out.below hb8' (Nat.le_refl _))
            have HBT := Lib.hid (Below.next HBR.out (Below.next HB5.out hb8'))
            clear hown8 hb8' hown6 hb6 hbA hbC hbC0 hb8 hr7 y0 y1 y2 y3 y4
            have hl8 : ∀ x ∈ S ++ Q, x < 256 := by rw [← HSS1.out]; exact HLT1.out
            have hr8 := HR8.out
            rw [← bvs_append] at hr8
            have HSAME := Lib.hid (same_self _ _ _ _ HR5'.out hr8 hl8)
            clear hr8 hl8
            go_wp2_with fail
            refine HSAME.out.mono ?_
            rintro e w9 ⟨rfl, q, rfl⟩
            go_wp2_with fail
            go_roundg (gk - 1)
            case measure => omega
            case rel =>
              refine ⟨r + 1, by omega, by go_num, ?_, ?_, Below.draws HBT.out _⟩
              · rw [HSS1.out]; exact HR5'.out.drewN _
              · rw [HSS1.out, bvs_append]; exact HR8.out.drewN _
        · go_wp2_with fail
          refine (HPUT.out _ _ (HRB.out.alloc _) ((Below.refl _ _).alloc (Nat.le_refl _) _)).mono ?_
          rintro e w5 ⟨v5', rfl, hown5, hb5⟩
          have hbk := hb5.block wr.heap.size (by simp)
          rw [heap_alloc_new] at hbk
          have x0 := cell_of_row _ _ 0 _ _ _ hbk
          have x1 := cell_of_row _ _ 1 _ _ _ hbk
          have x2 := cell_of_row _ _ 2 _ _ _ hbk
          have x3 := cell_of_row _ _ 3 _ _ _ hbk
          have x4 := cell_of_row _ _ 4 _ _ _ hbk
          simp only [List.getElem?_toArray, List.getElem?_cons_zero, List.getElem?_cons_succ] at x0 x1 x2 x3 x4
          have hbW : Below wr.heap.size wr w5 := ((Below.refl _ _).alloc (Nat.le_refl _) _).trans (hb5.mono (by simp))
          have hgx : wr.heap.size < w5.heap.size := by have := hb5.size; simp at this; omega
          have HR5 := Lib.hid hown5.rd
          have HB5 := Lib.hid hbW
          have HRK := Lib.hid ((HRW.out.below hbW (Nat.le_refl _)).k (B := w5.heap.size) (Nat.le_refl _))
          have HRP := Lib.hid (fun W (h : Below w5.heap.size w5 W) => HRPUT.out W (Below.next hbW h))
          clear hown5 hb5 hbk hbW c0 c1 c2 c3 c4
          go_wp2_with fail
          go_region_law (first
            | (refine step_app rfl (.tmp 61) (.tmp 62) 22 rfl w5.heap.size 5 _ 1 bytesE _ [] rfl ?ownac4 _ (bvs S) rfl ?rdac4 (bvs_one _) ?lenac4 ?baseac4 ?_
               case ownac4 => first | exact Own.drew (Own.lit0 rfl (Nat.le_refl _)) | exact Own.lit0 rfl hbC.size | exact (Own.drew (Own.lit0 (w := w5) rfl (Nat.le_refl _))).below hbC0 (Nat.le_refl _)
               case rdac4 => exact (HRK.out.keep fun p hp => Below.cell (by first | exact below_drewN' ((Below.refl _ _).alloc (Nat.le_refl _) _) 1 | exact hbC.alloc hbC.size _ | exact hbC) hp).rd
               case lenac4 => rw [bvs_len]; simp; omega
               case baseac4 => first | exact (below_drewN' ((Below.refl _ _).alloc (Nat.le_refl _) _) 1 : Below w5.heap.size w5 _).size | exact (hbC.alloc hbC.size _).size | exact hbC.size
               rintro v6 w6 hown6 hb6
               have hbA : Below w5.heap.size w5 w6 := Below.trans (by first | exact below_drewN' ((Below.refl _ _).alloc (Nat.le_refl _) _) 1 | exact hbC.alloc hbC.size _ | exact hbC) hb6
               have y0 := (hbA.cell (p := ⟨wr.heap.size, 0, none⟩) hgx).trans x0
               have y1 := (hbA.cell (p := ⟨wr.heap.size, 1, none⟩) hgx).trans x1
               have y2 := (hbA.cell (p := ⟨wr.heap.size, 2, none⟩) hgx).trans x2
               have y3 := (hbA.cell (p := ⟨wr.heap.size, 3, none⟩) hgx).trans x3
               have y4 := (hbA.cell (p := ⟨wr.heap.size, 4, none⟩) hgx).trans x4)
            | (refine step_app rfl (.tmp 63) (.tmp 65) 22 rfl w5.heap.size 5 _ 1 bytesE _ (bvs S) rfl ?ownbc4 _ (bvs Q) rfl ?rdbc4 (bvs_one _) ?lenbc4 ?basebc4 ?_
               case ownbc4 => exact hown6.below hbC0 (Nat.le_refl _)
               case rdbc4 => exact hr7
               case lenbc4 => simp only [bvs_len]; omega
               case basebc4 => exact hbC.size
               rintro v8 w8 hown8 hb8
               have hb8' : Below w5.heap.size w5 w8 := hbC.trans hb8)
            | (go_simp
               go_at_call 50
               refine (HRP.out _ (by first | exact hbA | exact below_drewN' ((Below.refl _ _).alloc (Nat.le_refl _) _) 1 | exact below_drewN' (Below.refl _ _) 1)).mono ?_
               rintro e w7 ⟨v7, rfl, hr7, hbC0⟩
               have hbC : Below w5.heap.size w5 w7 := Below.next (by first | exact hbA | exact below_drewN' ((Below.refl _ _).alloc (Nat.le_refl _) _) 1 | exact below_drewN' (Below.refl _ _) 1) hbC0
               go_simp))
          all_goals
            have HR8 := Lib.hid hown8.rd
            have HB8 := Lib.hid hb8'
            have HR5' := Lib.hid (HR5.out.below hb8' (Nat.le_refl _))
            have HBT := Lib.hid (Below.next HBR.out (Below.next HB5.out hb8'))
            clear hown8 hb8' hown6 hb6 hbA hbC hbC0 hb8 hr7 y0 y1 y2 y3 y4
            have hl8 : ∀ x ∈ S ++ Q, x < 256 := by rw [← HSS1.out]; exact HLT1.out
            have hr8 := HR8.out
            rw [← bvs_append] at hr8
            have HSAME := Lib.hid (same_self _ _ _ _ HR5'.out hr8 hl8)
            clear hr8 hl8
            go_wp2_with fail
            refine HSAME.out.mono ?_
            rintro e w9 ⟨rfl, q, rfl⟩
            go_wp2_with fail
            go_roundg (gk - 1)
            case measure => omega
            case rel =>
              refine ⟨r + 1, by omega, by go_num, ?_, ?_, Below.draws HBT.out _⟩
              · rw [HSS1.out]; exact HR5'.out.drewN _
              · rw [HSS1.out, bvs_append]; exact HR8.out.drewN _
        · go_wp2_with fail
          refine (HPUT.out _ _ (HRB.out.alloc _) ((Below.refl _ _).alloc (Nat.le_refl _) _)).mono ?_
          rintro e w5 ⟨v5', rfl, hown5, hb5⟩
          have hbk := hb5.block wr.heap.size (by simp)
          rw [heap_alloc_new] at hbk
          have x0 := cell_of_row _ _ 0 _ _ _ hbk
          have x1 := cell_of_row _ _ 1 _ _ _ hbk
          have x2 := cell_of_row _ _ 2 _ _ _ hbk
          have x3 := cell_of_row _ _ 3 _ _ _ hbk
          have x4 := cell_of_row _ _ 4 _ _ _ hbk
          simp only [List.getElem?_toArray, List.getElem?_cons_zero, List.getElem?_cons_succ] at x0 x1 x2 x3 x4
          have hbW : Below wr.heap.size wr w5 := ((Below.refl _ _).alloc (Nat.le_refl _) _).trans (hb5.mono (by simp))
          have hgx : wr.heap.size < w5.heap.size := by have := hb5.size; simp at this; omega
          have HR5 := Lib.hid hown5.rd
          have HB5 := Lib.hid hbW
          have HRK := Lib.hid ((HRW.out.below hbW (Nat.le_refl _)).k (B := w5.heap.size) (Nat.le_refl _))
          have HRP := Lib.hid (fun W (h : Below w5.heap.size w5 W) => HRPUT.out W (Below.next hbW h))
          clear hown5 hb5 hbk hbW c0 c1 c2 c3 c4
          go_wp2_with fail
          go_region_law (first
            | (refine step_app rfl (.tmp 61) (.tmp 62) 22 rfl w5.heap.size 5 _ 1 bytesE _ [] rfl ?ownac8 _ (bvs S) rfl ?rdac8 (bvs_one _) ?lenac8 ?baseac8 ?_
               case ownac8 => first | exact Own.drew (Own.lit0 rfl (Nat.le_refl _)) | exact Own.lit0 rfl hbC.size | exact (Own.drew (Own.lit0 (w := w5) rfl (Nat.le_refl _))).below hbC0 (Nat.le_refl _)
               case rdac8 => exact (HRK.out.keep fun p hp => Below.cell (by first | exact below_drewN' ((Below.refl _ _).alloc (Nat.le_refl _) _) 1 | exact hbC.alloc hbC.size _ | exact hbC) hp).rd
               case lenac8 => rw [bvs_len]; simp; omega
               case baseac8 => first | exact (below_drewN' ((Below.refl _ _).alloc (Nat.le_refl _) _) 1 : Below w5.heap.size w5 _).size | exact (hbC.alloc hbC.size _).size | exact hbC.size
               rintro v6 w6 hown6 hb6
               have hbA : Below w5.heap.size w5 w6 := Below.trans (by first | exact below_drewN' ((Below.refl _ _).alloc (Nat.le_refl _) _) 1 | exact hbC.alloc hbC.size _ | exact hbC) hb6
               have y0 := (hbA.cell (p := ⟨wr.heap.size, 0, none⟩) hgx).trans x0
               have y1 := (hbA.cell (p := ⟨wr.heap.size, 1, none⟩) hgx).trans x1
               have y2 := (hbA.cell (p := ⟨wr.heap.size, 2, none⟩) hgx).trans x2
               have y3 := (hbA.cell (p := ⟨wr.heap.size, 3, none⟩) hgx).trans x3
               have y4 := (hbA.cell (p := ⟨wr.heap.size, 4, none⟩) hgx).trans x4)
            | (refine step_app rfl (.tmp 63) (.tmp 65) 22 rfl w5.heap.size 5 _ 1 bytesE _ (bvs S) rfl ?ownbc8 _ (bvs Q) rfl ?rdbc8 (bvs_one _) ?lenbc8 ?basebc8 ?_
               case ownbc8 => exact hown6.below hbC0 (Nat.le_refl _)
               case rdbc8 => exact hr7
               case lenbc8 => simp only [bvs_len]; omega
               case basebc8 => exact hbC.size
               rintro v8 w8 hown8 hb8
               have hb8' : Below w5.heap.size w5 w8 := hbC.trans hb8)
            | (go_simp
               go_at_call 50
               refine (HRP.out _ (by first | exact hbA | exact below_drewN' ((Below.refl _ _).alloc (Nat.le_refl _) _) 1 | exact below_drewN' (Below.refl _ _) 1)).mono ?_
               rintro e w7 ⟨v7, rfl, hr7, hbC0⟩
               have hbC : Below w5.heap.size w5 w7 := Below.next (by first | exact hbA | exact below_drewN' ((Below.refl _ _).alloc (Nat.le_refl _) _) 1 | exact below_drewN' (Below.refl _ _) 1) hbC0
               go_simp))
          all_goals
            have HR8 := Lib.hid hown8.rd
            have HB8 := Lib.hid hb8'
            have HR5' := Lib.hid (HR5.out.below hb8' (Nat.le_refl _))
            have HBT := Lib.hid (Below.next HBR.out (Below.next HB5.out hb8'))
            clear hown8 hb8' hown6 hb6 hbA hbC hbC0 hb8 hr7 y0 y1 y2 y3 y4
            have hl8 : ∀ x ∈ S ++ Q, x < 256 := by rw [← HSS1.out]; exact HLT1.out
            have hr8 := HR8.out
            rw [← bvs_append] at hr8
            have HSAME := Lib.hid (same_self _ _ _ _ HR5'.out hr8 hl8)
            clear hr8 hl8
            go_wp2_with fail
            refine HSAME.out.mono ?_
            rintro e w9 ⟨rfl, q, rfl⟩
            go_wp2_with fail
            go_roundg (gk - 1)
            case measure => omega
            case rel =>
              refine ⟨r + 1, by omega, by go_num, ?_, ?_, Below.draws HBT.out _⟩
              · rw [HSS1.out]; exact HR5'.out.drewN _
              · rw [HSS1.out, bvs_append]; exact HR8.out.drewN _
      · have m1 : (sz != 1) = true := by simp [n1]
        have m2 : (sz != 2) = true := by simp [n2]
        have m4 : (sz != 4) = true := by simp [n4]
        have m8 : (sz != 8) = true := by simp [n8]
        clear n1 n2 n4 n8
        go_wp2_with fail
        refine (HPUT.out _ _ (HRB.out.alloc _) ((Below.refl _ _).alloc (Nat.le_refl _) _)).mono ?_
        rintro e w5 ⟨v5', rfl, hown5, hb5⟩
        have hbk := hb5.block wr.heap.size (by simp)
        rw [heap_alloc_new] at hbk
        have x0 := cell_of_row _ _ 0 _ _ _ hbk
        have x1 := cell_of_row _ _ 1 _ _ _ hbk
        have x2 := cell_of_row _ _ 2 _ _ _ hbk
        have x3 := cell_of_row _ _ 3 _ _ _ hbk
        have x4 := cell_of_row _ _ 4 _ _ _ hbk
        simp only [List.getElem?_toArray, List.getElem?_cons_zero, List.getElem?_cons_succ] at x0 x1 x2 x3 x4
        have hbW : Below wr.heap.size wr w5 := ((Below.refl _ _).alloc (Nat.le_refl _) _).trans (hb5.mono (by simp))
        have hgx : wr.heap.size < w5.heap.size := by have := hb5.size; simp at this; omega
        have HR5 := Lib.hid hown5.rd
        have HB5 := Lib.hid hbW
        have HRK := Lib.hid ((HRW.out.below hbW (Nat.le_refl _)).k (B := w5.heap.size) (Nat.le_refl _))
        have HRP := Lib.hid (fun W (h : Below w5.heap.size w5 W) => HRPUT.out W (Below.next hbW h))
        clear hown5 hb5 hbk hbW c0 c1 c2 c3 c4
        go_wp2_with fail
        go_region_law (first
          | (refine step_app rfl (.tmp 61) (.tmp 62) 22 rfl w5.heap.size 5 _ 1 bytesE _ [] rfl ?owna2 _ (bvs S) rfl ?rda2 (bvs_one _) ?lena2 ?basea2 ?_
             case owna2 => first | exact Own.drew (Own.lit0 rfl (Nat.le_refl _)) | exact Own.lit0 rfl hbC.size | exact (Own.drew (Own.lit0 (w := w5) rfl (Nat.le_refl _))).below hbC0 (Nat.le_refl _)
             case rda2 => exact (HRK.out.keep fun p hp => Below.cell (by first | exact below_drewN' ((Below.refl _ _).alloc (Nat.le_refl _) _) 1 | exact hbC.alloc hbC.size _ | exact hbC) hp).rd
             case lena2 => rw [bvs_len]; simp; omega
             case basea2 => first | exact (below_drewN' ((Below.refl _ _).alloc (Nat.le_refl _) _) 1 : Below w5.heap.size w5 _).size | exact (hbC.alloc hbC.size _).size | exact hbC.size
             rintro v6 w6 hown6 hb6
             have hbA : Below w5.heap.size w5 w6 := Below.trans (by first | exact below_drewN' ((Below.refl _ _).alloc (Nat.le_refl _) _) 1 | exact hbC.alloc hbC.size _ | exact hbC) hb6
             have y0 := (hbA.cell (p := ⟨wr.heap.size, 0, none⟩) hgx).trans x0
             have y1 := (hbA.cell (p := ⟨wr.heap.size, 1, none⟩) hgx).trans x1
             have y2 := (hbA.cell (p := ⟨wr.heap.size, 2, none⟩) hgx).trans x2
             have y3 := (hbA.cell (p := ⟨wr.heap.size, 3, none⟩) hgx).trans x3
             have y4 := (hbA.cell (p := ⟨wr.heap.size, 4, none⟩) hgx).trans x4)
          | (refine step_app rfl (.tmp 63) (.tmp 65) 22 rfl w5.heap.size 5 _ 1 bytesE _ (bvs S) rfl ?ownb2 _ (bvs Q) rfl ?rdb2 (bvs_one _) ?lenb2 ?baseb2 ?_
             case ownb2 => exact hown6.below hbC0 (Nat.le_refl _)
             case rdb2 => exact hr7
             case lenb2 => simp only [bvs_len]; omega
             case baseb2 => exact hbC.size
             rintro v8 w8 hown8 hb8
             have hb8' : Below w5.heap.size w5 w8 := hbC.trans hb8)
          | (go_simp
             go_at_call 50
             refine (HRP.out _ (by first | exact hbA | exact below_drewN' ((Below.refl _ _).alloc (Nat.le_refl _) _) 1 | exact below_drewN' (Below.refl _ _) 1)).mono ?_
             rintro e w7 ⟨v7, rfl, hr7, hbC0⟩
             have hbC : Below w5.heap.size w5 w7 := Below.next (by first | exact hbA | exact below_drewN' ((Below.refl _ _).alloc (Nat.le_refl _) _) 1 | exact below_drewN' (Below.refl _ _) 1) hbC0
             go_simp))
        all_goals
          have HR8 := Lib.hid hown8.rd
          have HB8 := Lib.hid hb8'
          have HR5' := Lib.hid (HR5.out.below hb8' (Nat.le_refl _))
          have HBT := Lib.hid (Below.next HBR.out (Below.next HB5.out hb8'))
          clear hown8 hb8' hown6 hb6 hbA hbC hbC0 hb8 hr7 y0 y1 y2 y3 y4
          have hl8 : ∀ x ∈ S ++ Q, x < 256 := by rw [← HSS1.out]; exact HLT1.out
          have hr8 := HR8.out
          rw [← bvs_append] at hr8
          have HSAME := Lib.hid (same_self _ _ _ _ HR5'.out hr8 hl8)
          clear hr8 hl8
          go_wp2_with fail
          refine HSAME.out.mono ?_
          rintro e w9 ⟨rfl, q, rfl⟩
          go_wp2_with fail
          go_roundg (gk - 1)
          case measure => omega
          case rel =>
            refine ⟨r + 1, by omega, by go_num, ?_, ?_, Below.draws HBT.out _⟩
            · rw [HSS1.out]; exact HR5'.out.drewN _
            · rw [HSS1.out, bvs_append]; exact HR8.out.drewN _
    · obtain rfl : r = k := by omega
      have hrk' : decide ((r : Int) < (r : Int)) = false := by rw [decide_eq_false_iff_not]; omega
      go_wp2_with fail
      refine (same_self _ _ _ _ (HV2.out.below HBR.out (Nat.le_refl _)) (HW.out.below HBR.out (Nat.le_refl _)) HAL.out).mono ?_
      rintro e w9 ⟨rfl, q, rfl⟩
      go_wp2_with fail
      go_ret
      exact ⟨rfl, Below.draws (HB2.out.trans (HBR.out.mono HB2.out.size)) _⟩
set_option maxRecDepth 100000 in
set_option maxHeartbeats 4000000 in
theorem wirePuts_off (v vl : Value) (A : List Nat) (ds : List ItemD) (w : World) (hv : Rd w v (bvs A)) (hl : ItemsR w vl ds) (h : farB ds = true ∨ 300 < A.length) :
    Calls Try.prog 8 #[v, vl] w fun e w' => e = .returned (.bool true) ∧ Below w.heap.size w w' := by
  have HA := Lib.hid (fun w => alive01 w)
  have F := fun w h => far_any vl ds w h
  obtain ⟨a0, cap0, rfl, hcap0, hcap0', _⟩ := id hv
  rw [bvs_len] at hv hcap0 ⊢
  have HL := Lib.hid hl
  have hcase : farB ds = true ∨ (farB ds = false ∧ 300 < A.length) := by
    rcases Bool.eq_false_or_eq_true (farB ds) with h1 | h1
    · exact .inl h1
    · rcases h with h2 | h2
      · rw [h1] at h2; cases h2
      · exact .inr ⟨h1, h2⟩
  clear hv hl h
  rcases hcase with h1 | ⟨h1, h2⟩
  all_goals
    rw [h1] at F
    have HF := Lib.hid F
    clear F h1
    go_enter Try.func8, Try.ntmps8
    go_wp2_with fail
    refine (HA.out _).mono ?_
    rintro e w1 ⟨rfl, hb⟩
    have HB1 := Lib.hid hb
    have HL1 := Lib.hid (HL.out.below hb (Nat.le_refl _))
    clear hb
    go_wp2_with fail
    refine (HF.out _ HL1.out).mono ?_
    rintro e w' ⟨rfl, rfl⟩
    go_wp2_with fail
    go_ret
    exact ⟨rfl, HB1.out⟩
theorem wirePuts_walk {w : World} (v : Value) (A : List Nat) (vl : Value) (ds : List ItemD) (hA : ∀ n ∈ A, n < 256) (hv : Rd w v (bvs A)) (hl : ItemsR w vl ds ∧ ∀ d ∈ ds, ItemOk d) :
    Calls Try.prog 8 #[v, vl] w fun e w' => e = .returned (.bool true) ∧ Below w.heap.size w w' := by
  by_cases h : farB ds = true ∨ 300 < A.length
  · exact wirePuts_off v vl A ds w hv hl.1 h
  · have hf : farB ds = false := by
      rcases Bool.eq_false_or_eq_true (farB ds) with h1 | h1
      · exact absurd (.inl h1) h
      · exact h1
    have hn := farB_not hf
    exact wirePuts_on v vl A ds w hv hA hl.1 hl.2 hn.1 hn.2 (by rcases Nat.lt_or_ge 300 A.length with h1 | h1; exact absurd (.inr h1) h; exact h1)
end Go.Proofs.Ytkihcngllhjabaa
