/- Walks: WireBack. -/
import Derived.Test.YtkihcngllhjabaaWireLTake
import Derived.Test.YtkihcngllhjabaaWireFar
import Derived.Test.YtkihcngllhjabaaWireAlive
import Derived.Deep.LoopGhost
import Derived.Deep.QuietTactic
import Derived.BigQuiet
namespace Go.Proofs.Ytkihcngllhjabaa
open Go.RowKit WireM
set_option linter.unusedVariables false
def catQ (ds : List ItemD) : List Nat := (ds.map putB).flatten
theorem catQ_snoc (ds : List ItemD) (d : ItemD) : catQ (ds ++ [d]) = catQ ds ++ putB d := by simp [catQ]
theorem catQ_drop {ds : List ItemD} {r : Nat} (h : r < ds.length) : catQ (ds.drop r) = putB ds[r] ++ catQ (ds.drop (r + 1)) := by
  rw [List.drop_eq_getElem_cons h, catQ, catQ, List.map_cons, List.flatten_cons]
theorem catQ_len : ∀ (ds : List ItemD), (∀ d ∈ ds, Near d) → (∀ d ∈ ds, d.kind = 0 → mayB d.size = true) → (catQ ds).length ≤ ds.length * 5000 := by
  intro ds
  induction ds with
  | nil => intro _ _; simp [catQ]
  | cons d ds ih =>
    intro h h0
    have h1 := ih (fun q hq => h q (by simp [hq])) (fun q hq => h0 q (by simp [hq]))
    have h2 := putB_len (h d (by simp)) (fun hk => by have := of_decide_eq_true (h0 d (by simp) hk); omega)
    simp only [catQ, List.map_cons, List.flatten_cons, List.length_append, List.length_cons] at h1 ⊢
    omega
theorem catQ_lt : ∀ (ds : List ItemD), (∀ d ∈ ds, Near d) → (∀ d ∈ ds, ItemOk d) → ∀ x ∈ catQ ds, x < 256 := by
  intro ds h1 h2 x hx
  simp only [catQ, List.mem_flatten, List.mem_map] at hx
  obtain ⟨y, ⟨d, hd, rfl⟩, hx⟩ := hx
  exact putB_lt (h1 d hd) (h2 d hd) x hx
/-- the size that is asked for -/
def fix4 (d : ItemD) : ItemD := if d.kind = 4 then { d with size := (d.v.length : Nat) } else d
theorem fix4_put (d : ItemD) : putB (fix4 d) = putB d := by
  unfold fix4
  split
  · rename_i h
    unfold putB
    simp [h]
  · rfl
theorem ItemsR.below {w w' : World} {B : Nat} {v : Value} {ds : List ItemD} (h : ItemsR w v ds) (hb : Below B w w') (hB : w.heap.size ≤ B) : ItemsR w' v ds := by
  obtain ⟨a, cap, rfl, h1, h2, h3⟩ := h
  refine ⟨a, cap, rfl, h1, h2, ?_⟩
  intro i hi
  obtain ⟨b, off, cv, cl, rfl, hbl, c0, c1, c2, c3, c4, hv, hl⟩ := h3 i hi
  have hk : ∀ o v, w.cell? ⟨b, o, none⟩ = some v → w'.cell? ⟨b, o, none⟩ = some v := fun o v h => (hb.cell (p := ⟨b, o, none⟩) (Nat.lt_of_lt_of_le hbl hB)).trans h
  exact ⟨b, off, cv, cl, rfl, Nat.lt_of_lt_of_le hbl hb.size, hk _ _ c0, hk _ _ c1, hk _ _ c2, hk _ _ c3, hk _ _ c4, hv.below hb hB, hl.below hb hB⟩
set_option maxRecDepth 100000 in
set_option maxHeartbeats 8000000 in
theorem wireBack_on (vl : Value) (ds : List ItemD) (w : World) (hl : ItemsR w vl ds) (hok : ∀ d ∈ ds, ItemOk d) (hnear : ∀ d ∈ ds, Near d) (h30 : ds.length ≤ 30) :
    Calls Try.prog 9 #[vl] w fun e w' => e = .returned (.bool true) ∧ Below w.heap.size w w' := by
  have HA := Lib.hid (fun w => alive01 w)
  have F := fun w h => far_any vl ds w h
  have hf : farB ds = false := by rw [farB_near hnear, decide_eq_false_iff_not]; omega
  rw [hf] at F
  obtain ⟨al, capl, rfl, hcl1, hcl2, hit⟩ := id hl
  obtain ⟨k, hk⟩ : ∃ k, k = ds.length := ⟨_, rfl⟩
  rw [← hk] at hl F hcl1 h30 ⊢
  have HF := Lib.hid F
  have HL := Lib.hid hl
  have HOK := Lib.hid hok
  have HNR := Lib.hid hnear
  have HK := Lib.hid hk
  clear F hf hl hok hnear hit hk
  go_enter Try.func9, Try.ntmps9
  go_wp2_with fail
  refine (HA.out _).mono ?_
  rintro e w1 ⟨rfl, hb⟩
  have HB1 := Lib.hid hb
  have HL1 := Lib.hid (HL.out.below hb (Nat.le_refl _))
  clear hb
  go_wp2_with fail
  refine (HF.out _ HL1.out).mono ?_
  rintro e w' ⟨rfl, rfl⟩
  go_wp2_with fail
  go_loopg [3, 4] k (fun q b i wr => ∃ r : Nat, r + q = k ∧ i = .int .i64 (r : Int) ∧ Rd wr b (bvs (catQ (ds.take r))) ∧ (∀ d ∈ ds.take r, d.kind = 0 → mayB d.size = true) ∧ Below w.heap.size w wr)
  case atStart => exact ⟨0, by omega, rfl, nil_rd _, by simp, HB1.out⟩
  case round =>
    obtain ⟨r, hr, rfl, hrb, hmay, hbr⟩ := hrel
    have HRB := Lib.hid hrb
    have HBR := Lib.hid hbr
    have HMAY := Lib.hid hmay
    have hszr := hbr.size
    clear hrb hbr hmay
    by_cases hrk : r < k
    · have hrd : r < ds.length := by have := HK.out; omega
      have hlr := HL.out.below HBR.out (Nat.le_refl _)
      obtain ⟨al', capl', he, _, _, hit⟩ := hlr
      obtain ⟨b, off, cv, cl, rfl, hbl, c0, c1, c2, c3, c4, hcv, hcl⟩ := hit r hrd
      simp only [Value.slice.injEq] at he
      obtain ⟨rfl, hkk, rfl⟩ := he
      clear hkk
      obtain ⟨av, nv, capv, rfl⟩ : ∃ a n c, cv = .slice a n c := by obtain ⟨a, cap, e, _⟩ := hcv; exact ⟨a, _, cap, e⟩
      obtain ⟨aw, nw, capw, rfl⟩ : ∃ a n c, cl = .slice a n c := by obtain ⟨vs, ⟨a, cap, e, _⟩, _⟩ := hcl; exact ⟨a, _, cap, e⟩
      have hDn := HNR.out _ (List.getElem_mem hrd)
      have hDo := HOK.out _ (List.getElem_mem hrd)
      have hsl := catQ_len (ds.take r) (fun d hd => HNR.out d (List.mem_of_mem_take hd)) HMAY.out
      have hlt30 : (ds.take r).length ≤ r := List.length_take_le _ _
      have hts : ds.take (r + 1) = ds.take r ++ [ds[r]] := List.take_succ_eq_append_getElem hrd
      obtain ⟨D, hD⟩ : ∃ D, D = ds[r] := ⟨_, rfl⟩
      rw [← hD] at c0 c1 c2 hcv hcl hDn hDo hts
      have PUT : ∀ b', Rd wr b' (bvs (catQ (ds.take r))) → (D.kind = 0 → mayB D.size = true) → Calls Try.prog 49 #[b', .agg #[.int .i64 D.kind, .int .i64 D.size, .int .u64 (D.n : Nat), .slice av nv capv, .slice aw nw capw]] wr fun e w' => ∃ v', e = .returned v' ∧ Own w' wr.heap.size 5 v' (bvs (catQ (ds.take r) ++ putB D)) ∧ Below wr.heap.size wr w' := by
        intro b' hb' h0
        exact put_any b' _ D _ wr hb' (by omega) ⟨_, _, rfl, hcv, hcl⟩ hDo hDn (fun h => .inr (h0 h))
      have HPUT := Lib.hid PUT
      have HTS := Lib.hid hts
      have HD := Lib.hid hD
      have hrk' : decide ((r : Int) < (k : Int)) = true := by rw [decide_eq_true_iff]; omega
      obtain ⟨kd, hkd⟩ : ∃ kd, kd = D.kind := ⟨_, rfl⟩
      obtain ⟨sz, hsz⟩ : ∃ sz, sz = D.size := ⟨_, rfl⟩
      obtain ⟨nn, hnn⟩ : ∃ nn, nn = D.n := ⟨_, rfl⟩
      rw [← hkd] at c0 HPUT
      rw [← hsz] at c1 HPUT
      rw [← hnn] at c2 HPUT
      have HKD := Lib.hid hkd
      have HSZ := Lib.hid hsz
      have hcase : kd ≠ 0 ∨ (kd = 0 ∧ (sz = 1 ∨ sz = 2 ∨ sz = 4 ∨ sz = 8)) ∨ (kd = 0 ∧ sz ≠ 1 ∧ sz ≠ 2 ∧ sz ≠ 4 ∧ sz ≠ 8) := by omega
      clear hcv hcl hDn hDo hts hD hkd hsz hnn hit PUT hsl hlt30
      have hm : (kd ≠ 0 ∨ (sz = 1 ∨ sz = 2 ∨ sz = 4 ∨ sz = 8)) → (kd = 0 → mayB sz = true) := by
        intro h h0
        rw [mayB, decide_eq_true_iff]
        rcases h with h | h
        · exact absurd h0 h
        · exact h
      have HM := Lib.hid hm
      clear hm
      rcases hcase with hk0 | ⟨rfl, hs4⟩ | ⟨rfl, n1, n2, n4, n8⟩
      · have hk0' : (kd == 0) = false := by simp [hk0]
        have HP := Lib.hid (HM.out (.inl hk0))
        clear hk0
        go_wp2_with fail
        refine (HPUT.out _ HRB.out (fun h => HP.out (by simpa using h))).mono ?_
        rintro e w5 ⟨v5', rfl, hown5, hb5⟩
        have HR5 := Lib.hid hown5.rd
        have HB5 := Lib.hid (Below.next HBR.out hb5)
        clear hown5 hb5
        go_wp2_with fail
        go_roundg (gk - 1)
        case measure => omega
        case rel =>
          refine ⟨r + 1, by omega, by go_num, by rw [HTS.out, catQ_snoc]; exact HR5.out, ?_, HB5.out⟩
          rw [HTS.out]
          intro d hd
          rw [List.mem_append] at hd
          rcases hd with hd | hd
          · exact HMAY.out d hd
          · simp only [List.mem_singleton] at hd; subst hd; rw [← HKD.out, ← HSZ.out]; exact HP.out
      · have HP := Lib.hid (HM.out (.inr hs4))
        rcases hs4 with rfl | rfl | rfl | rfl
        all_goals
          go_wp2_with fail
          refine (HPUT.out _ HRB.out (fun _ => HP.out trivial)).mono ?_
          rintro e w5 ⟨v5', rfl, hown5, hb5⟩
          have HR5 := Lib.hid hown5.rd
          have HB5 := Lib.hid (Below.next HBR.out hb5)
          clear hown5 hb5
          go_wp2_with fail
          go_roundg (gk - 1)
          case measure => omega
          case rel =>
            refine ⟨r + 1, by omega, by go_num, by rw [HTS.out, catQ_snoc]; exact HR5.out, ?_, HB5.out⟩
            rw [HTS.out]
            intro d hd
            rw [List.mem_append] at hd
            rcases hd with hd | hd
            · exact HMAY.out d hd
            · simp only [List.mem_singleton] at hd; subst hd; rw [← HKD.out, ← HSZ.out]; exact fun _ => HP.out trivial
      · have m1 : (sz != 1) = true := by simp [n1]
        have m2 : (sz != 2) = true := by simp [n2]
        have m4 : (sz != 4) = true := by simp [n4]
        have m8 : (sz != 8) = true := by simp [n8]
        clear n1 n2 n4 n8
        go_wp2_with fail
        go_ret
        exact ⟨rfl, HBR.out⟩
    · obtain rfl : r = k := by omega
      have hrk' : decide ((r : Int) < (r : Int)) = false := by rw [decide_eq_false_iff_not]; omega
      have hall := HMAY.out
      have hrb := HRB.out
      rw [HK.out, List.take_length] at hall hrb
      have HALL := Lib.hid hall
      have HN := Lib.hid (newReader_any _ _ wr hrb)
      clear hall hrb
      go_wp2_with fail
      refine HN.out.mono ?_
      rintro e w2 ⟨rfl, hrs, hb2⟩
      have HRS := Lib.hid hrs
      have HB2 := Lib.hid (Below.next HBR.out hb2)
      have hwr : w.heap.size ≤ wr.heap.size := HBR.out.size
      obtain ⟨C, hC⟩ : ∃ C, C = wr.heap.size := ⟨_, rfl⟩
      rw [← hC] at HRS hwr ⊢
      clear hrs hb2 hC
      go_wp2_with fail
      go_loopg [6] r (fun q i wr => ∃ t : Nat, t + q = r ∧ i = .int .i64 (t : Int) ∧ RS wr C (catQ (ds.drop t)) 0 ∧ Below w.heap.size w wr)
      case atStart => exact ⟨0, by omega, rfl, by rw [List.drop_zero]; exact HRS.out, HB2.out⟩
      case round =>
        obtain ⟨t, ht, rfl, hrs, hbw⟩ := hrel
        have HRT := Lib.hid hrs
        have HBW := Lib.hid hbw
        have hClt := hrs.lt
        clear hrs hbw
        by_cases htr : t < r
        · have htd : t < ds.length := by have := HK.out; omega
          obtain ⟨al', capl', he, _, _, hit⟩ := HL.out
          obtain ⟨b, off, cv, cl, rfl, hbl, d0, d1, d2, d3, d4, hcv, hcl⟩ := hit t htd
          have hk := fun o v (h : w.cell? ⟨b, o, none⟩ = some v) => (HBW.out.cell (p := ⟨b, o, none⟩) hbl).trans h
          have c0 := hk _ _ d0
          have c1 := hk _ _ d1
          have c2 := hk _ _ d2
          have c3 := hk _ _ d3
          have c4 := hk _ _ d4
          clear hk d0 d1 d2 d3 d4
          simp only [Value.slice.injEq] at he
          obtain ⟨rfl, hkk, rfl⟩ := he
          clear hkk
          obtain ⟨av, nv, capv, rfl⟩ : ∃ a n c, cv = .slice a n c := by obtain ⟨a, cap, e, _⟩ := hcv; exact ⟨a, _, cap, e⟩
          obtain ⟨aw, nw, capw, rfl⟩ : ∃ a n c, cl = .slice a n c := by obtain ⟨vs, ⟨a, cap, e, _⟩, _⟩ := hcl; exact ⟨a, _, cap, e⟩
          have hDn := HNR.out _ (List.getElem_mem htd)
          have hDo := HOK.out _ (List.getElem_mem htd)
          have hDm := HALL.out _ (List.getElem_mem htd)
          have hRl := catQ_len (ds.drop (t + 1)) (fun d hd => HNR.out d (List.mem_of_mem_drop hd)) (fun d hd => HALL.out d (List.mem_of_mem_drop hd))
          have hRt := catQ_lt (ds.drop (t + 1)) (fun d hd => HNR.out d (List.mem_of_mem_drop hd)) (fun d hd => HOK.out d (List.mem_of_mem_drop hd))
          have hR30 : (ds.drop (t + 1)).length ≤ 30 := by have := HK.out; rw [List.length_drop]; omega
          have hdr := catQ_drop htd
          have hrt := HRT.out
          rw [hdr] at hrt
          obtain ⟨D, hD⟩ : ∃ D, D = ds[t] := ⟨_, rfl⟩
          rw [← hD] at c0 c1 c2 hcv hcl hDn hDo hDm hrt
          obtain ⟨R, hR⟩ : ∃ R, R = catQ (ds.drop (t + 1)) := ⟨_, rfl⟩
          rw [← hR] at hRl hRt hrt
          have hf4 : (fix4 D).kind = D.kind ∧ (fix4 D).n = D.n ∧ (fix4 D).v = D.v ∧ (fix4 D).l = D.l := by unfold fix4; split <;> exact ⟨rfl, rfl, rfl, rfl⟩
          have hf5 : (D.kind ≠ 4 → (fix4 D).size = D.size) ∧ (D.kind = 4 → (fix4 D).size = (D.v.length : Nat)) := by
            unfold fix4
            by_cases h : D.kind = 4
            · rw [if_pos h]; exact ⟨fun h' => absurd h h', fun _ => rfl⟩
            · rw [if_neg h]; exact ⟨fun _ => rfl, fun h' => absurd h' h⟩
          have hok4 : ItemOk (fix4 D) := by
            refine ⟨by rw [hf4.2.1]; exact hDo.n, by rw [hf4.2.2.1]; exact hDo.v, by rw [hf4.2.2.2]; exact hDo.l, by rw [hf4.1]; exact hDo.kind, ?_⟩
            by_cases h : D.kind = 4
            · rw [hf5.2 h]; have := hDn.v; omega
            · rw [hf5.1 h]; exact hDo.size
          have hn4 : Near (fix4 D) := ⟨by rw [hf4.1]; exact hDn.k0, by rw [hf4.1]; exact hDn.k4, by rw [hf4.2.2.1]; exact hDn.v, by rw [hf4.2.2.2]; exact hDn.l, by rw [hf4.2.2.2]; exact hDn.r⟩
          have LT : ∀ W cv cl, RS W C (putB D ++ R) 0 → Calls Try.prog 51 #[.pointer (some ⟨C, 0, none⟩), .agg #[.int .i64 D.kind, .int .i64 (fix4 D).size, .int .u64 (D.n : Nat), cv, cl]] W (LTakeP C W (fix4 D) R) := by
            intro W cv cl hW
            rw [← fix4_put] at hW
            have := ltake_any C (fix4 D) R cv cl W hW hok4 hn4 (by omega) hRt (by rw [hf4.1]; intro h; rw [hf5.1 (by omega)]; exact hDm h) (by rw [hf4.1, hf4.2.2.1]; exact hf5.2)
            rw [hf4.1, hf4.2.1] at this
            exact this
          have hg : ∀ (W : World) n' v' l', Got (fix4 D) W n' v' l' ↔ ((D.kind = 0 → n' = D.n % 256 ^ D.size.toNat) ∧ (D.kind = 3 → n' = if 0 < D.n then 1 else 0) ∧ ((D.kind = 1 ∨ D.kind = 4) → Rd W v' (bvs D.v)) ∧ (D.kind = 2 → RdL W l' D.l) ∧ n' < 18446744073709551616) := by
            intro W n' v' l'
            unfold Got
            rw [hf4.1, hf4.2.1, hf4.2.2.1, hf4.2.2.2]
            by_cases h : D.kind = 0
            · rw [hf5.1 (by omega)]
            · constructor
              · rintro ⟨_, h1⟩; exact ⟨fun h' => absurd h' h, h1⟩
              · rintro ⟨_, h1⟩; exact ⟨fun h' => absurd h' h, h1⟩
          have hp : ∀ W e W', LTakeP C W (fix4 D) R e W' ↔ ∃ (n : Nat) (a1 : Option Addr) (n1 c1 : Nat) (a2 : Option Addr) (n2 c2 : Nat), e = .returned (.agg #[.int .i64 D.kind, .int .i64 (fix4 D).size, .int .u64 (n : Nat), .slice a1 n1 c1, .slice a2 n2 c2]) ∧ ((D.kind = 0 → n = D.n % 256 ^ D.size.toNat) ∧ (D.kind = 3 → n = if 0 < D.n then 1 else 0) ∧ ((D.kind = 1 ∨ D.kind = 4) → Rd W' (.slice a1 n1 c1) (bvs D.v)) ∧ (D.kind = 2 → RdL W' (.slice a2 n2 c2) D.l) ∧ n < 18446744073709551616) ∧ RS W' C R 0 ∧ Only C W W' := by
            intro W e W'
            unfold LTakeP
            simp only [hg, hf4.1]
          have hnv : nv = D.v.length := by
            obtain ⟨a, cap, he, _⟩ := hcv
            simp only [Value.slice.injEq] at he
            rw [he.2.1, bvs_len]
          have hVt := hDo.v
          have hLt := hDo.l
          have hk4 := hDn.k4
          have hk0 := hDn.k0
          have hn64 := hDo.n
          have hv300 := hDn.v
          obtain ⟨fs, hfs⟩ : ∃ fs, fs = (fix4 D).size := ⟨_, rfl⟩
          simp only [← hfs] at LT hp hf5
          obtain ⟨kd, hkd⟩ : ∃ kd, kd = D.kind := ⟨_, rfl⟩
          simp only [← hkd] at LT hp hf5 c0 hk4 hk0 hDm
          obtain ⟨sz, hsz⟩ : ∃ sz, sz = D.size := ⟨_, rfl⟩
          simp only [← hsz] at LT hp hf5 c1 hDm
          obtain ⟨nn, hnn⟩ : ∃ nn, nn = D.n := ⟨_, rfl⟩
          simp only [← hnn] at LT hp c2 hn64
          obtain ⟨V, hV⟩ : ∃ V, V = D.v := ⟨_, rfl⟩
          simp only [← hV] at hp hf5 hcv hnv hVt hv300
          obtain ⟨Ls, hLs⟩ : ∃ V, V = D.l := ⟨_, rfl⟩
          simp only [← hLs] at hp hcl hLt
          have HLT := Lib.hid LT
          have HP := Lib.hid hp
          have HCV := Lib.hid hcv
          have HCL := Lib.hid hcl
          have HVT := Lib.hid hVt
          have HLTT := Lib.hid hLt
          have HRT' := Lib.hid hrt
          have HRR := Lib.hid hR
          have htr' : decide ((t : Int) < (r : Int)) = true := by rw [decide_eq_true_iff]; omega
          have hsplit : (kd = 0 ∧ fs = sz ∧ mayB sz = true) ∨ (kd = 1 ∧ fs = sz) ∨ (kd = 2 ∧ fs = sz) ∨ (kd = 3 ∧ fs = sz) ∨ (kd = 4 ∧ fs = (V.length : Nat)) := by
            have hd : kd = 0 ∨ kd = 1 ∨ kd = 2 ∨ kd = 3 ∨ kd = 4 := by omega
            rcases hd with h | h | h | h | h
            · exact .inl ⟨h, hf5.1 (by omega), hDm h⟩
            · exact .inr (.inl ⟨h, hf5.1 (by omega)⟩)
            · exact .inr (.inr (.inl ⟨h, hf5.1 (by omega)⟩))
            · exact .inr (.inr (.inr (.inl ⟨h, hf5.1 (by omega)⟩)))
            · exact .inr (.inr (.inr (.inr ⟨h, hf5.2 h⟩)))
          clear hr hrk hrk'
          clear hf4 hf5 hok4 hn4 LT hg hp hcv hcl hVt hLt hrt hR hfs hkd hsz hnn hV hLs hDn hDo hDm hRl hRt hR30 hdr hD hit hk4 hk0 hbl
          subst hnv
          rcases hsplit with ⟨rfl, rfl, hm⟩ | ⟨rfl, rfl⟩ | ⟨rfl, rfl⟩ | ⟨rfl, rfl⟩ | ⟨rfl, rfl⟩
          · have hmm := of_decide_eq_true hm
            clear hm
            rcases hmm with rfl | rfl | rfl | rfl
            · go_wp2_with fail
              refine (HLT.out _ _ _ (HRT'.out.low ((Below.refl wr.heap.size wr).alloc (Nat.le_refl _) (.cells #[.int .i64 0, .int .i64 1, .int .u64 (nn : Nat), .slice av V.length capv, .slice aw nw capw] 77)) hClt)).mono ?_
              intro e w3 hpost
              obtain ⟨n', a1, n1, c1', a2, n2, c2', rfl, ⟨g0, g3, g1, g2, hn'⟩, hrs3, honly⟩ := (HP.out _ _ _).1 hpost
              have hbk := (Blk.new wr 77 #[.int .i64 0, .int .i64 1, .int .u64 (nn : Nat), .slice av V.length capv, .slice aw nw capw]).only honly (by omega)
              have hz3 := honly.size
              have hgx : wr.heap.size < w3.heap.size := by simp only [World.alloc] at hz3; simp at hz3; omega
              have x0 := hbk.cell 0
              have x1 := hbk.cell 1
              have x2 := hbk.cell 2
              have x3 := hbk.cell 3
              have x4 := hbk.cell 4
              simp only [List.getElem?_toArray, List.getElem?_cons_zero, List.getElem?_cons_succ] at x0 x1 x2 x3 x4
              have HB3 := Lib.hid ((HBW.out.alloc HBW.out.size (.cells #[.int .i64 0, .int .i64 1, .int .u64 (nn : Nat), .slice av V.length capv, .slice aw nw capw] 77)).trans (honly.below (by omega) (by simp; omega)))
              have HR3 := Lib.hid hrs3
              have hC3 : C < w3.heap.size := by omega
              have G0 := Lib.hid (g0 (by simp))
              clear g0 g1 g2 g3
              clear hbk hz3 honly hrs3 hpost c0 c1 c2 c3 c4
              have hg' : ((n' : Int) != (nn : Int) % 256) = false := by
                have := G0.out
                rw [show ((1 : Int).toNat) = 1 from rfl, show 256 ^ 1 = 256 from rfl] at this
                rw [bne_eq_false_iff_eq]; omega
              go_wp2_with fail
              go_quiet (fail)
              go_wp2_with fail
              go_roundg (gk - 1)
              case measure => omega
              case rel => exact ⟨t + 1, by omega, by go_num, by rw [← HRR.out]; exact (HR3.out.low ((Below.refl w3.heap.size w3).alloc (Nat.le_refl _) _) hC3).drewN _, Below.draws (HB3.out.alloc HB3.out.size _) _⟩
            · go_wp2_with fail
              refine (HLT.out _ _ _ (HRT'.out.low ((Below.refl wr.heap.size wr).alloc (Nat.le_refl _) (.cells #[.int .i64 0, .int .i64 2, .int .u64 (nn : Nat), .slice av V.length capv, .slice aw nw capw] 77)) hClt)).mono ?_
              intro e w3 hpost
              obtain ⟨n', a1, n1, c1', a2, n2, c2', rfl, ⟨g0, g3, g1, g2, hn'⟩, hrs3, honly⟩ := (HP.out _ _ _).1 hpost
              have hbk := (Blk.new wr 77 #[.int .i64 0, .int .i64 2, .int .u64 (nn : Nat), .slice av V.length capv, .slice aw nw capw]).only honly (by omega)
              have hz3 := honly.size
              have hgx : wr.heap.size < w3.heap.size := by simp only [World.alloc] at hz3; simp at hz3; omega
              have x0 := hbk.cell 0
              have x1 := hbk.cell 1
              have x2 := hbk.cell 2
              have x3 := hbk.cell 3
              have x4 := hbk.cell 4
              simp only [List.getElem?_toArray, List.getElem?_cons_zero, List.getElem?_cons_succ] at x0 x1 x2 x3 x4
              have HB3 := Lib.hid ((HBW.out.alloc HBW.out.size (.cells #[.int .i64 0, .int .i64 2, .int .u64 (nn : Nat), .slice av V.length capv, .slice aw nw capw] 77)).trans (honly.below (by omega) (by simp; omega)))
              have HR3 := Lib.hid hrs3
              have hC3 : C < w3.heap.size := by omega
              have G0 := Lib.hid (g0 (by simp))
              clear g0 g1 g2 g3
              clear hbk hz3 honly hrs3 hpost c0 c1 c2 c3 c4
              have hg' : ((n' : Int) != (nn : Int) % 65536) = false := by
                have := G0.out
                rw [show ((2 : Int).toNat) = 2 from rfl, show 256 ^ 2 = 65536 from rfl] at this
                rw [bne_eq_false_iff_eq]; omega
              go_wp2_with fail
              go_quiet (fail)
              go_wp2_with fail
              go_roundg (gk - 1)
              case measure => omega
              case rel => exact ⟨t + 1, by omega, by go_num, by rw [← HRR.out]; exact (HR3.out.low ((Below.refl w3.heap.size w3).alloc (Nat.le_refl _) _) hC3).drewN _, Below.draws (HB3.out.alloc HB3.out.size _) _⟩
            · go_wp2_with fail
              refine (HLT.out _ _ _ (HRT'.out.low ((Below.refl wr.heap.size wr).alloc (Nat.le_refl _) (.cells #[.int .i64 0, .int .i64 4, .int .u64 (nn : Nat), .slice av V.length capv, .slice aw nw capw] 77)) hClt)).mono ?_
              intro e w3 hpost
              obtain ⟨n', a1, n1, c1', a2, n2, c2', rfl, ⟨g0, g3, g1, g2, hn'⟩, hrs3, honly⟩ := (HP.out _ _ _).1 hpost
              have hbk := (Blk.new wr 77 #[.int .i64 0, .int .i64 4, .int .u64 (nn : Nat), .slice av V.length capv, .slice aw nw capw]).only honly (by omega)
              have hz3 := honly.size
              have hgx : wr.heap.size < w3.heap.size := by simp only [World.alloc] at hz3; simp at hz3; omega
              have x0 := hbk.cell 0
              have x1 := hbk.cell 1
              have x2 := hbk.cell 2
              have x3 := hbk.cell 3
              have x4 := hbk.cell 4
              simp only [List.getElem?_toArray, List.getElem?_cons_zero, List.getElem?_cons_succ] at x0 x1 x2 x3 x4
              have HB3 := Lib.hid ((HBW.out.alloc HBW.out.size (.cells #[.int .i64 0, .int .i64 4, .int .u64 (nn : Nat), .slice av V.length capv, .slice aw nw capw] 77)).trans (honly.below (by omega) (by simp; omega)))
              have HR3 := Lib.hid hrs3
              have hC3 : C < w3.heap.size := by omega
              have G0 := Lib.hid (g0 (by simp))
              clear g0 g1 g2 g3
              clear hbk hz3 honly hrs3 hpost c0 c1 c2 c3 c4
              have hg' : ((n' : Int) != (nn : Int) % 4294967296) = false := by
                have := G0.out
                rw [show ((4 : Int).toNat) = 4 from rfl, show 256 ^ 4 = 4294967296 from rfl] at this
                rw [bne_eq_false_iff_eq]; omega
              go_wp2_with fail
              go_quiet (fail)
              go_wp2_with fail
              go_roundg (gk - 1)
              case measure => omega
              case rel => exact ⟨t + 1, by omega, by go_num, by rw [← HRR.out]; exact (HR3.out.low ((Below.refl w3.heap.size w3).alloc (Nat.le_refl _) _) hC3).drewN _, Below.draws (HB3.out.alloc HB3.out.size _) _⟩
            · go_wp2_with fail
              refine (HLT.out _ _ _ (HRT'.out.low ((Below.refl wr.heap.size wr).alloc (Nat.le_refl _) (.cells #[.int .i64 0, .int .i64 8, .int .u64 (nn : Nat), .slice av V.length capv, .slice aw nw capw] 77)) hClt)).mono ?_
              intro e w3 hpost
              obtain ⟨n', a1, n1, c1', a2, n2, c2', rfl, ⟨g0, g3, g1, g2, hn'⟩, hrs3, honly⟩ := (HP.out _ _ _).1 hpost
              have hbk := (Blk.new wr 77 #[.int .i64 0, .int .i64 8, .int .u64 (nn : Nat), .slice av V.length capv, .slice aw nw capw]).only honly (by omega)
              have hz3 := honly.size
              have hgx : wr.heap.size < w3.heap.size := by simp only [World.alloc] at hz3; simp at hz3; omega
              have x0 := hbk.cell 0
              have x1 := hbk.cell 1
              have x2 := hbk.cell 2
              have x3 := hbk.cell 3
              have x4 := hbk.cell 4
              simp only [List.getElem?_toArray, List.getElem?_cons_zero, List.getElem?_cons_succ] at x0 x1 x2 x3 x4
              have HB3 := Lib.hid ((HBW.out.alloc HBW.out.size (.cells #[.int .i64 0, .int .i64 8, .int .u64 (nn : Nat), .slice av V.length capv, .slice aw nw capw] 77)).trans (honly.below (by omega) (by simp; omega)))
              have HR3 := Lib.hid hrs3
              have hC3 : C < w3.heap.size := by omega
              have G0 := Lib.hid (g0 (by simp))
              clear g0 g1 g2 g3
              clear hbk hz3 honly hrs3 hpost c0 c1 c2 c3 c4
              have hg' : ((n' : Int) != (nn : Int)) = false := by
                have := G0.out
                rw [show ((8 : Int).toNat) = 8 from rfl, show 256 ^ 8 = 18446744073709551616 from rfl, Nat.mod_eq_of_lt hn64] at this
                rw [bne_eq_false_iff_eq]; omega
              go_wp2_with fail
              go_quiet (fail)
              go_wp2_with fail
              go_roundg (gk - 1)
              case measure => omega
              case rel => exact ⟨t + 1, by omega, by go_num, by rw [← HRR.out]; exact (HR3.out.low ((Below.refl w3.heap.size w3).alloc (Nat.le_refl _) _) hC3).drewN _, Below.draws (HB3.out.alloc HB3.out.size _) _⟩
          · go_wp2_with fail
            refine (HLT.out _ _ _ (HRT'.out.low ((Below.refl wr.heap.size wr).alloc (Nat.le_refl _) (.cells #[.int .i64 1, .int .i64 fs, .int .u64 (nn : Nat), .slice av V.length capv, .slice aw nw capw] 77)) hClt)).mono ?_
            intro e w3 hpost
            obtain ⟨n', a1, n1, c1', a2, n2, c2', rfl, ⟨g0, g3, g1, g2, hn'⟩, hrs3, honly⟩ := (HP.out _ _ _).1 hpost
            have hbk := (Blk.new wr 77 #[.int .i64 1, .int .i64 fs, .int .u64 (nn : Nat), .slice av V.length capv, .slice aw nw capw]).only honly (by omega)
            have hz3 := honly.size
            have hgx : wr.heap.size < w3.heap.size := by simp only [World.alloc] at hz3; simp at hz3; omega
            have x0 := hbk.cell 0
            have x1 := hbk.cell 1
            have x2 := hbk.cell 2
            have x3 := hbk.cell 3
            have x4 := hbk.cell 4
            simp only [List.getElem?_toArray, List.getElem?_cons_zero, List.getElem?_cons_succ] at x0 x1 x2 x3 x4
            have HB3 := Lib.hid ((HBW.out.alloc HBW.out.size (.cells #[.int .i64 1, .int .i64 fs, .int .u64 (nn : Nat), .slice av V.length capv, .slice aw nw capw] 77)).trans (honly.below (by omega) (by simp; omega)))
            have HR3 := Lib.hid hrs3
            have hC3 : C < w3.heap.size := by omega
            have hb4 := (HB3.out.alloc HB3.out.size (.cells #[.int .i64 1, .int .i64 fs, .int .u64 (n' : Nat), .slice a1 n1 c1', .slice a2 n2 c2'] 77))
            have HSAME := Lib.hid (same_yes _ _ V _ ((g1 (by simp)).alloc _) (HCV.out.below hb4 (Nat.le_refl _)) HVT.out)
            clear g0 g1 g2 g3 hb4
            clear hbk hz3 honly hrs3 hpost c0 c1 c2 c3 c4
            go_wp2_with fail
            refine HSAME.out.mono ?_
            rintro e w' ⟨rfl, q, rfl⟩
            go_wp2_with fail
            go_roundg (gk - 1)
            case measure => omega
            case rel => exact ⟨t + 1, by omega, by go_num, by rw [← HRR.out]; exact (HR3.out.low ((Below.refl w3.heap.size w3).alloc (Nat.le_refl _) _) hC3).drewN _, Below.draws (HB3.out.alloc HB3.out.size _) _⟩
          · go_wp2_with fail
            refine (HLT.out _ _ _ (HRT'.out.low ((Below.refl wr.heap.size wr).alloc (Nat.le_refl _) (.cells #[.int .i64 2, .int .i64 fs, .int .u64 (nn : Nat), .slice av V.length capv, .slice aw nw capw] 77)) hClt)).mono ?_
            intro e w3 hpost
            obtain ⟨n', a1, n1, c1', a2, n2, c2', rfl, ⟨g0, g3, g1, g2, hn'⟩, hrs3, honly⟩ := (HP.out _ _ _).1 hpost
            have hbk := (Blk.new wr 77 #[.int .i64 2, .int .i64 fs, .int .u64 (nn : Nat), .slice av V.length capv, .slice aw nw capw]).only honly (by omega)
            have hz3 := honly.size
            have hgx : wr.heap.size < w3.heap.size := by simp only [World.alloc] at hz3; simp at hz3; omega
            have x0 := hbk.cell 0
            have x1 := hbk.cell 1
            have x2 := hbk.cell 2
            have x3 := hbk.cell 3
            have x4 := hbk.cell 4
            simp only [List.getElem?_toArray, List.getElem?_cons_zero, List.getElem?_cons_succ] at x0 x1 x2 x3 x4
            have HB3 := Lib.hid ((HBW.out.alloc HBW.out.size (.cells #[.int .i64 2, .int .i64 fs, .int .u64 (nn : Nat), .slice av V.length capv, .slice aw nw capw] 77)).trans (honly.below (by omega) (by simp; omega)))
            have HR3 := Lib.hid hrs3
            have hC3 : C < w3.heap.size := by omega
            have hb4 := (HB3.out.alloc HB3.out.size (.cells #[.int .i64 2, .int .i64 fs, .int .u64 (n' : Nat), .slice a1 n1 c1', .slice a2 n2 c2'] 77))
            have HSAME := Lib.hid (sameLists_yes _ _ Ls _ ((g2 (by simp)).below ((Below.refl w3.heap.size w3).alloc (Nat.le_refl _) _) (Nat.le_refl _)) (HCL.out.below hb4 (Nat.le_refl _)) HLTT.out)
            clear g0 g1 g2 g3 hb4
            clear hbk hz3 honly hrs3 hpost c0 c1 c2 c3 c4
            go_wp2_with fail
            refine HSAME.out.mono ?_
            rintro e w' ⟨rfl, q, rfl⟩
            go_wp2_with fail
            go_roundg (gk - 1)
            case measure => omega
            case rel => exact ⟨t + 1, by omega, by go_num, by rw [← HRR.out]; exact (HR3.out.low ((Below.refl w3.heap.size w3).alloc (Nat.le_refl _) _) hC3).drewN _, Below.draws (HB3.out.alloc HB3.out.size _) _⟩
          · go_wp2_with fail
            refine (HLT.out _ _ _ (HRT'.out.low ((Below.refl wr.heap.size wr).alloc (Nat.le_refl _) (.cells #[.int .i64 3, .int .i64 fs, .int .u64 (nn : Nat), .slice av V.length capv, .slice aw nw capw] 77)) hClt)).mono ?_
            intro e w3 hpost
            obtain ⟨n', a1, n1, c1', a2, n2, c2', rfl, ⟨g0, g3, g1, g2, hn'⟩, hrs3, honly⟩ := (HP.out _ _ _).1 hpost
            have hbk := (Blk.new wr 77 #[.int .i64 3, .int .i64 fs, .int .u64 (nn : Nat), .slice av V.length capv, .slice aw nw capw]).only honly (by omega)
            have hz3 := honly.size
            have hgx : wr.heap.size < w3.heap.size := by simp only [World.alloc] at hz3; simp at hz3; omega
            have x0 := hbk.cell 0
            have x1 := hbk.cell 1
            have x2 := hbk.cell 2
            have x3 := hbk.cell 3
            have x4 := hbk.cell 4
            simp only [List.getElem?_toArray, List.getElem?_cons_zero, List.getElem?_cons_succ] at x0 x1 x2 x3 x4
            have HB3 := Lib.hid ((HBW.out.alloc HBW.out.size (.cells #[.int .i64 3, .int .i64 fs, .int .u64 (nn : Nat), .slice av V.length capv, .slice aw nw capw] 77)).trans (honly.below (by omega) (by simp; omega)))
            have HR3 := Lib.hid hrs3
            have hC3 : C < w3.heap.size := by omega
            have G3 := Lib.hid (g3 (by simp))
            clear g0 g1 g2 g3
            clear hbk hz3 honly hrs3 hpost c0 c1 c2 c3 c4
            by_cases hp : 0 < nn
            · have hn1 : n' = 1 := by have := G3.out; rw [if_pos hp] at this; exact this
              subst hn1
              clear hn'
              go_wp2_with fail
              go_roundg (gk - 1)
              case measure => omega
              case rel => exact ⟨t + 1, by omega, by go_num, by rw [← HRR.out]; exact HR3.out.low ((Below.refl w3.heap.size w3).alloc (Nat.le_refl _) _) hC3, HB3.out.alloc HB3.out.size _⟩
            · have hn1 : n' = 0 := by have := G3.out; rw [if_neg hp] at this; exact this
              subst hn1
              obtain rfl : nn = 0 := by omega
              clear hn' hp
              go_wp2_with fail
              go_roundg (gk - 1)
              case measure => omega
              case rel => exact ⟨t + 1, by omega, by go_num, by rw [← HRR.out]; exact HR3.out.low ((Below.refl w3.heap.size w3).alloc (Nat.le_refl _) _) hC3, HB3.out.alloc HB3.out.size _⟩
          · go_wp2_with fail
            refine (HLT.out _ _ _ (HRT'.out.low ((Below.refl wr.heap.size wr).alloc (Nat.le_refl _) (.cells #[.int .i64 4, .int .i64 (V.length : Nat), .int .u64 (nn : Nat), .slice av V.length capv, .slice aw nw capw] 77)) hClt)).mono ?_
            intro e w3 hpost
            obtain ⟨n', a1, n1, c1', a2, n2, c2', rfl, ⟨g0, g3, g1, g2, hn'⟩, hrs3, honly⟩ := (HP.out _ _ _).1 hpost
            have hbk := (Blk.new wr 77 #[.int .i64 4, .int .i64 (V.length : Nat), .int .u64 (nn : Nat), .slice av V.length capv, .slice aw nw capw]).only honly (by omega)
            have hz3 := honly.size
            have hgx : wr.heap.size < w3.heap.size := by simp only [World.alloc] at hz3; simp at hz3; omega
            have x0 := hbk.cell 0
            have x1 := hbk.cell 1
            have x2 := hbk.cell 2
            have x3 := hbk.cell 3
            have x4 := hbk.cell 4
            simp only [List.getElem?_toArray, List.getElem?_cons_zero, List.getElem?_cons_succ] at x0 x1 x2 x3 x4
            have HB3 := Lib.hid ((HBW.out.alloc HBW.out.size (.cells #[.int .i64 4, .int .i64 (V.length : Nat), .int .u64 (nn : Nat), .slice av V.length capv, .slice aw nw capw] 77)).trans (honly.below (by omega) (by simp; omega)))
            have HR3 := Lib.hid hrs3
            have hC3 : C < w3.heap.size := by omega
            have hb4 := (HB3.out.alloc HB3.out.size (.cells #[.int .i64 4, .int .i64 (V.length : Nat), .int .u64 (n' : Nat), .slice a1 n1 c1', .slice a2 n2 c2'] 77))
            have HSAME := Lib.hid (same_yes _ _ V _ ((g1 (by simp)).alloc _) (HCV.out.below hb4 (Nat.le_refl _)) HVT.out)
            clear g0 g1 g2 g3 hb4
            clear hbk hz3 honly hrs3 hpost c0 c1 c2 c3 c4
            go_wp2_with fail
            refine HSAME.out.mono ?_
            rintro e w' ⟨rfl, q, rfl⟩
            go_wp2_with fail
            go_roundg (gk - 1)
            case measure => omega
            case rel => exact ⟨t + 1, by omega, by go_num, by rw [← HRR.out]; exact (HR3.out.low ((Below.refl w3.heap.size w3).alloc (Nat.le_refl _) _) hC3).drewN _, Below.draws (HB3.out.alloc HB3.out.size _) _⟩
        · obtain rfl : t = r := by omega
          have htr' : decide ((t : Int) < (t : Int)) = false := by rw [decide_eq_false_iff_not]; omega
          have hnil : catQ (ds.drop t) = [] := by rw [HK.out, List.drop_length]; rfl
          have hE := end_any C _ 0 wr HRT.out
          rw [hnil, show endE [] 0 = 0 from rfl] at hE
          have HE := Lib.hid hE
          clear hnil hE hr hrk hrk'
          go_wp2_with fail
          refine HE.out.mono ?_
          rintro e w' ⟨rfl, rfl⟩
          go_wp2_with fail
          refine (num_nil _).mono ?_
          rintro e w' ⟨rfl, rfl⟩
          go_wp2_with fail
          refine (vec_nil _).mono ?_
          rintro e w' ⟨rfl, rfl⟩
          go_wp2_with fail
          refine (taken_nil _).mono ?_
          rintro e w4 ⟨a4, c4, rfl, hb4⟩
          have HB4 := Lib.hid (Below.next HBW.out hb4)
          clear hb4
          go_wp2_with fail
          refine (left_nil _).mono ?_
          rintro e w' ⟨rfl, rfl⟩
          go_wp2_with fail
          refine (flag_nil _).mono ?_
          rintro e w' ⟨rfl, rfl⟩
          go_wp2_with fail
          refine (err_nil _).mono ?_
          rintro e w' ⟨rfl, rfl⟩
          go_wp2_with fail
          refine (end_nil _).mono ?_
          rintro e w' ⟨rfl, rfl⟩
          go_wp2_with fail
          go_ret
          exact ⟨rfl, HB4.out⟩
set_option maxRecDepth 100000 in
theorem wireBack_off (vl : Value) (ds : List ItemD) (w : World) (hl : ItemsR w vl ds) (hf : farB ds = true) :
    Calls Try.prog 9 #[vl] w fun e w' => e = .returned (.bool true) ∧ Below w.heap.size w w' := by
  have HA := Lib.hid (fun w => alive01 w)
  have F := fun w h => far_any vl ds w h
  rw [hf] at F
  have HF := Lib.hid F
  have HL := Lib.hid hl
  clear F hf hl
  go_enter Try.func9, Try.ntmps9
  go_wp2_with fail
  refine (HA.out _).mono ?_
  rintro e w1 ⟨rfl, hb⟩
  have HB1 := Lib.hid hb
  have HL1 := Lib.hid (HL.out.below hb (Nat.le_refl _))
  clear hb
  go_wp2_with fail
  refine (HF.out _ HL1.out).mono ?_
  rintro e w' ⟨rfl, rfl⟩
  go_wp2_with fail
  go_ret
  exact ⟨rfl, HB1.out⟩
theorem wireBack_walk {w : World} (vl : Value) (ds : List ItemD) (hl : ItemsR w vl ds ∧ ∀ d ∈ ds, ItemOk d) :
    Calls Try.prog 9 #[vl] w fun e w' => e = .returned (.bool true) ∧ Below w.heap.size w w' := by
  rcases Bool.eq_false_or_eq_true (farB ds) with h1 | h1
  · exact wireBack_off vl ds w hl.1 h1
  · have hn := farB_not h1
    exact wireBack_on vl ds w hl.1 hl.2 hn.1 hn.2
end Go.Proofs.Ytkihcngllhjabaa
