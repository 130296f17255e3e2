/- Walk: the document's linked. -/
import Derived.Test.YtngealmhgkoaiaaGreatZHashStands38
import Derived.Test.YtngealmhgkoaiaaGreatZHashStands33
namespace Go.Proofs.YtngealmhgkoaiaaGreat
open Go.RowKit WalkM ShaM WireM
set_option linter.unusedVariables false
/-- so far none of the first k fails -/
def allNo (f : Nat → Bool) (k : Nat) : Bool := (List.range k).all fun j => !f j
theorem allNo_step (f : Nat → Bool) (k : Nat) : allNo f (k + 1) = (allNo f k && !f k) := by unfold allNo; rw [List.range_succ, List.all_append]; simp
set_option maxRecDepth 100000 in
set_option maxHeartbeats 16000000 in
theorem rlinked_any (v : Value) (t : List NodeD) (p c o : Nat) (w : World) (h : TreeR w v t) (hs : smallT t = true) (hok : TreeOk t) (hr : rightT t = true) (hpn : p < t.length) (hcn : c < t.length) (hon : o < t.length) :
  Calls Tryz.prog 86 #[v, .int .i64 (p : Nat), .int .i64 (c : Nat), .int .i64 (o : Nat)] w fun e w' => e = .returned (.bool ((List.range (resX t c).length).any (rlinkAt t p c o))) ∧ Below w.heap.size w w' := by
 have hlen := smallT_len hs
 obtain ⟨ta, tc, rfl, hc, hc2⟩ := h.sl
 have SE := fun (W : World) (hw : Below w.heap.size w W) => rseen_any _ t p o W (h.below hw (Nat.le_refl _)) hs hok hr hpn hon
 have RS := fun (W : World) (hw : Below w.heap.size w W) => rresolve_any _ t c W (h.below hw (Nat.le_refl _)) hs hok hr hcn
 have UN := fun (u : Int) (W : World) => runder_any (2 * u) (c : Int) W
 have hsl : (nd t p).par.late.length ≤ 60 := by have := of_decide_eq_true (smallT_nd hs p); omega
 have LU := lates_in hr hpn
 have RA := res_all (by omega) hr hcn
 have RL : (resX t c).length ≤ 1000000 := by
  have := resN_len (fun x => smallT_nd hs x) (lev c) c
  have h2 : 2 ^ lev c ≤ 40 := by have := (lev_inT (by omega) hr hcn).2; omega
  unfold resX; omega
 have GN := fun (W : World) (hw : Below w.heap.size w W) (i : Nat) (hi : i < t.length) => (h.below hw (Nat.le_refl _)).node hi
 have SA := fun (W : World) (x y : Value) (m : Nat) (hx : Rd W x (bvs (shaF (seenT t p o)))) (hy : Rd W y (bvs (nd t m).leaf.par)) => same_any x y _ _ W hx hy (shaF_lt _) (hok.nd m).par
 have SB := fun (W : World) (x y : Value) (m : Nat) (hx : Rd W x (bvs (shaF (seenT t p o)))) (hy : Rd W y (bvs (nd t m).par.hash)) => same_any x y _ _ W hx hy (shaF_lt _) (hok.nd m).hash
 have YES := fun (i : Nat) (hi : i < (resX t c).length) (h1 : rbearB t p c o i = true) (h2 : allNo (oddOut t p c i) (resX t c).length = true) (h3 : allNo (lateOut t p c i) (nd t p).par.late.length = true) => (show (List.range (resX t c).length).any (rlinkAt t p c o) = true from any_yes hi (by unfold rlinkAt; rw [h1]; unfold allNo at h2 h3; rw [h2, h3]; rfl))
 have NO1 := fun (i : Nat) (h1 : rbearB t p c o i = false) => (show rlinkAt t p c o i = false by unfold rlinkAt; rw [h1]; rfl)
 have NO2 := fun (i : Nat) (h1 : (allNo (oddOut t p c i) (resX t c).length && allNo (lateOut t p c i) (nd t p).par.late.length) = false) => (show rlinkAt t p c o i = false by unfold rlinkAt; unfold allNo at h1; rw [h1, Bool.and_false])
 have NO := fun (h : ∀ i, i < (resX t c).length → rlinkAt t p c o i = false) => (show (List.range (resX t c).length).any (rlinkAt t p c o) = false from any_no h)
 have RB := fun (i : Nat) => (show rbearB t p c o i = (decide (shaF (seenT t p o) = (nd t ((resX t c).getD i 0).toNat).leaf.par) || decide (shaF (seenT t p o) = (nd t ((resX t c).getD i 0).toNat).par.hash)) from rfl)
 have OD := fun (i k : Nat) => (show oddOut t p c i k = (decide (k ≠ i) && (decide ((resX t c).getD k 0 % 2 = 1) || !decide ((resX t c).getD k 0 / 2 ∈ (nd t p).par.late))) from rfl)
 have LO := fun (i k : Nat) => (show lateOut t p c i k = (undZ (2 * (nd t p).par.late.getD k 0) (c : Int) && (decide (2 * (nd t p).par.late.getD k 0 = (resX t c).getD i 0) || !decide (2 * (nd t p).par.late.getD k 0 ∈ resX t c))) from rfl)
 obtain ⟨b, off, lb, le1, rfl, hbl, -, c9, rd9⟩ := h.at hpn
 obtain ⟨H, hH⟩ : ∃ H, H = shaF (seenT t p o) := ⟨_, rfl⟩
 rw [← hH] at SE SA SB
 simp only [← hH] at RB
 obtain ⟨D, hD⟩ : ∃ D, D = resX t c := ⟨_, rfl⟩
 simp only [← hD] at RS RA RL YES NO1 NO2 NO RB OD LO ⊢
 obtain ⟨LL, hLL⟩ : ∃ L, L = (nd t p).par.late := ⟨_, rfl⟩
 simp only [← hLL] at LU hsl c9 rd9 YES NO2 OD LO
 obtain ⟨n8, hn8⟩ : ∃ n, n = LL.length := ⟨_, rfl⟩
 rw [← hn8] at c9 rd9 hsl
 simp only [← hn8] at YES NO2
 obtain ⟨dn, hdn⟩ : ∃ n, n = D.length := ⟨_, rfl⟩
 obtain ⟨R, hR⟩ : ∃ R, R = (List.range D.length).any (rlinkAt t p c o) := ⟨_, rfl⟩
 simp only [← hR] at YES NO ⊢
 simp only [← hdn] at YES NO NO2 RL
 obtain ⟨LK, hLK⟩ : ∃ L, L = rlinkAt t p c o := ⟨_, rfl⟩
 simp only [← hLK] at NO1 NO2 NO
 obtain ⟨BB, hBB⟩ : ∃ L, L = rbearB t p c o := ⟨_, rfl⟩
 simp only [← hBB] at YES NO1 RB
 obtain ⟨OO, hOO⟩ : ∃ L, L = oddOut t p c := ⟨_, rfl⟩
 simp only [← hOO] at YES NO2 OD
 obtain ⟨PO, hPO⟩ : ∃ L, L = lateOut t p c := ⟨_, rfl⟩
 simp only [← hPO] at YES NO2 LO
 obtain ⟨n, hn⟩ : ∃ n, n = t.length := ⟨_, rfl⟩
 rw [← hn] at SE RS hc hlen RA GN LU hpn ⊢
 have LG := fun (W : World) (hw : Below w.heap.size w W) (i : Nat) (hi : i < n8) => (rd9.below hw (Nat.le_refl _)).at3 (u := .int .i64 (LL.getD i 0)) (r := i) (by simp [ivs, List.getD_eq_getElem?_getD, ← hn8, hi])
 have LUr := fun (i : Nat) (hi : i < n8) => (show ∃ m : Nat, LL.getD i 0 = (m : Int) ∧ 2 * m < n from by
  obtain ⟨m, e, h1, -⟩ := LU (LL.getD i 0) (List.mem_iff_getElem?.2 ⟨i, getD_some (by omega)⟩)
  exact ⟨m, e, h1⟩)
 have DA := fun (i : Nat) (hi : i < dn) => (show ∃ y : Nat, D.getD i 0 = (y : Int) ∧ y < n from by
  obtain ⟨y, e, h1, -⟩ := RA (D.getD i 0) (List.mem_iff_getElem?.2 ⟨i, getD_some (by omega)⟩)
  exact ⟨y, e, h1⟩)
 have DG := fun (W : World) (a : Option Addr) (c : Nat) (hd : Rd W (.slice a dn c) (ivs .i64 D)) (i : Nat) (hi : i < dn) => hd.at3 (u := .int .i64 (D.getD i 0)) (r := i) (by simp [ivs, List.getD_eq_getElem?_getD, ← hdn, hi])
 have L9 := fun (W : World) (hw : Below w.heap.size w W) => rd9.below hw (Nat.le_refl _)
 have C9 := fun (W : World) (hw : Below w.heap.size w W) => (show W.cell? ⟨b, off + p * 10 + 9, none⟩ = some (.slice lb n8 le1) from (hw.cell (p := ⟨b, off + p * 10 + 9, none⟩) hbl).trans c9)
 have HSL := fun (W : World) (x : Int) (hw : Rd W (.slice lb n8 le1) (ivs .i64 LL)) => has18_any _ LL x W hw
 have HSD := fun (W : World) (a : Option Addr) (cc : Nat) (x : Int) (hw : Rd W (.slice a dn cc) (ivs .i64 D)) => has18_any _ D x W hw
 obtain ⟨X, hX⟩ : ∃ X : Nat → Int, X = fun i => LL.getD i 0 := ⟨_, rfl⟩
 have hX' : ∀ i, LL.getD i 0 = X i := fun i => by rw [hX]
 obtain ⟨Y, hY⟩ : ∃ X : Nat → Int, X = fun i => D.getD i 0 := ⟨_, rfl⟩
 have hY' : ∀ i, D.getD i 0 = Y i := fun i => by rw [hY]
 simp only [hX'] at LG LUr LO
 simp only [hY'] at DA DG RB OD LO
 have AZ : ∀ f : Nat → Bool, allNo f 0 = true := fun f => rfl
 have AN := fun (f : Nat → Bool) (k : Nat) (hf : f k = false) => (show allNo f (k + 1) = allNo f k by rw [allNo_step, hf]; simp)
 have AY := fun (f : Nat → Bool) (k : Nat) (hf : f k = true) => (show allNo f (k + 1) = false by rw [allNo_step, hf]; simp)
 obtain ⟨A, hA⟩ : ∃ A, A = allNo := ⟨_, rfl⟩
 simp only [← hA] at YES NO2 AZ AN AY
 have H_SE := Lib.hid SE
 have H_RS := Lib.hid RS
 have H_UN := Lib.hid UN
 have H_GN := Lib.hid GN
 have H_SA := Lib.hid SA
 have H_SB := Lib.hid SB
 have H_YES := Lib.hid YES
 have H_NO1 := Lib.hid NO1
 have H_NO2 := Lib.hid NO2
 have H_NO := Lib.hid NO
 have H_RB := Lib.hid RB
 have H_OD := Lib.hid OD
 have H_LO := Lib.hid LO
 have H_LG := Lib.hid LG
 have H_LUr := Lib.hid LUr
 have H_DA := Lib.hid DA
 have H_DG := Lib.hid DG
 have H_L9 := Lib.hid L9
 have H_C9 := Lib.hid C9
 have H_HSL := Lib.hid HSL
 have H_HSD := Lib.hid HSD
 have H_AZ := Lib.hid AZ
 have H_AN := Lib.hid AN
 have H_AY := Lib.hid AY
 have HDN := Lib.hid hdn
 have hpI : (p : Int) < (n : Int) := by omega
 clear SE RS UN GN SA SB YES NO1 NO2 NO RB OD LO LG LUr DA DG L9 C9 HSL HSD AZ AN AY hA hX hX' hY hY' LU RA hn hn8 hR hLK hLL hD hH hBB hOO hPO hdn c9 rd9 h hs hok hr hcn hon
 go_enter Tryz.func86, Tryz.ntmps86
 go_wp2_with fail
 refine (H_SE.out w (Below.refl _ _)).mono ?_
 rintro e w3 ⟨vh, rfl, hown, hb3⟩
 have HB3 := Lib.hid hb3
 have HH3 := Lib.hid hown.rd
 clear hown hb3
 go_wp2_with fail
 refine (H_RS.out w3 HB3.out).mono ?_
 rintro e w4 ⟨vd, rfl, hown, hb4⟩
 have HB4 := Lib.hid (HB3.out.trans (hb4.mono HB3.out.size))
 have HH4 := Lib.hid (HH3.out.below hb4 (Nat.le_refl _))
 have HD4 := Lib.hid hown.rd
 obtain ⟨da, dc, rfl⟩ : ∃ a c, vd = .slice a dn c := by obtain ⟨a, c, e, _⟩ := hown.rd; rw [show (ivs .i64 D).length = dn by simp [ivs, HDN.out]] at e; exact ⟨a, c, e⟩
 clear hown hb4
 go_wp2_with fail
 go_loopg [11] dn (fun q iv wr => ∃ i : Nat, i + q = dn ∧ iv = .int .i64 (i : Nat) ∧ Below w.heap.size w wr ∧ Below w4.heap.size w4 wr ∧ ∀ j, j < i → LK j = false)
 case atStart => exact ⟨0, by omega, rfl, HB4.out, Below.refl _ _, fun j hj => by omega⟩
 case round =>
  obtain ⟨i, hi, rfl, hb, hb4, hno⟩ := hrel
  have HI := Lib.hid hi
  have HB5 := Lib.hid hb
  have HBB := Lib.hid hb4
  have HJ := Lib.hid hno
  clear hi hb hb4 hno
  by_cases hlti : i < dn
  ·have hlt' : decide (i < dn) = true := decide_eq_true hlti
   have hltI : (i : Int) < (dn : Int) := by omega
   have hD5 := HD4.out.below HBB.out (Nat.le_refl _)
   obtain ⟨bd, od, rfl, hlb, cu⟩ := H_DG.out wr _ _ hD5 i hlti
   obtain ⟨y, ey, hlt⟩ := H_DA.out i hlti
   rw [ey] at cu
   have HEY := Lib.hid ey
   have HH5 := Lib.hid (HH4.out.below HBB.out (Nat.le_refl _))
   have hyI : (y : Int) < (n : Int) := by omega
   clear ey hD5
   obtain ⟨b', off', cs, e0, hbl', hnc, hra⟩ := H_GN.out wr HB5.out y hlt
   obtain ⟨rfl, rfl⟩ : b = b' ∧ off = off' := by
    simp only [Option.some.injEq, Addr.mk.injEq, and_true] at e0
    exact e0
   obtain ⟨a1, c1, a2, c2, a3, c3, a4, c4, a5, c5, b1, e1, b2, e2, b3, e3, hcs, -, -, -, h4, -, -, h7, -⟩ := hnc
   obtain ⟨kd, hkd⟩ : ∃ k, k = (nd t y).kind := ⟨_, rfl⟩
   obtain ⟨l1, hl1⟩ : ∃ l, l = (nd t y).leaf.box.length := ⟨_, rfl⟩
   obtain ⟨l2, hl2⟩ : ∃ l, l = (nd t y).leaf.sign.length := ⟨_, rfl⟩
   obtain ⟨l3, hl3⟩ : ∃ l, l = (nd t y).leaf.ident.length := ⟨_, rfl⟩
   obtain ⟨l4, hl4⟩ : ∃ l, l = (nd t y).leaf.par.length := ⟨_, rfl⟩
   obtain ⟨l5, hl5⟩ : ∃ l, l = (nd t y).leaf.sig.length := ⟨_, rfl⟩
   obtain ⟨l6, hl6⟩ : ∃ l, l = (nd t y).par.box.length := ⟨_, rfl⟩
   obtain ⟨l7, hl7⟩ : ∃ l, l = (nd t y).par.hash.length := ⟨_, rfl⟩
   obtain ⟨l8, hl8⟩ : ∃ l, l = (nd t y).par.late.length := ⟨_, rfl⟩
   obtain ⟨s, hsrc⟩ : ∃ s, s = (nd t y).leaf.source := ⟨_, rfl⟩
   rw [← hkd, ← hl1, ← hl2, ← hl3, ← hl4, ← hl5, ← hl6, ← hl7, ← hl8, ← hsrc] at hcs
   rw [← hl4] at h4
   rw [← hl7] at h7
   rw [hcs] at hra
   have HRA := Lib.hid hra
   have hba := (Below.refl wr.heap.size wr).alloc (Nat.le_refl _) (.cells #[.int .u8 (kd : Nat), .slice a1 l1 c1, .slice a2 l2 c2, .slice a3 l3 c3, .int .u8 (s : Nat), .slice a4 l4 c4, .slice a5 l5 c5, .slice b1 l6 e1, .slice b2 l7 e2, .slice b3 l8 e3] 54)
   have HBA := Lib.hid (HB5.out.trans (hba.mono HB5.out.size))
   have HBBA := Lib.hid (HBB.out.trans (hba.mono HBB.out.size))
   have HCA := Lib.hid (H_SA.out (wr.alloc (.cells #[.int .u8 (kd : Nat), .slice a1 l1 c1, .slice a2 l2 c2, .slice a3 l3 c3, .int .u8 (s : Nat), .slice a4 l4 c4, .slice a5 l5 c5, .slice b1 l6 e1, .slice b2 l7 e2, .slice b3 l8 e3] 54)) _ _ y (HH5.out.below hba (Nat.le_refl _)) (h4.below hba (Nat.le_refl _)))
   have HCB := Lib.hid fun (k : Nat) => (H_SB.out ((wr.alloc (.cells #[.int .u8 (kd : Nat), .slice a1 l1 c1, .slice a2 l2 c2, .slice a3 l3 c3, .int .u8 (s : Nat), .slice a4 l4 c4, .slice a5 l5 c5, .slice b1 l6 e1, .slice b2 l7 e2, .slice b3 l8 e3] 54)).drewN k) _ _ y ((HH5.out.below hba (Nat.le_refl _)).drewN k) ((h7.below hba (Nat.le_refl _)).drewN k))
   have HRB := Lib.hid (H_RB.out i)
   have HYT := Lib.hid (show (Y i).toNat = y by rw [HEY.out, Int.toNat_natCast])
   clear hkd hl1 hl2 hl3 hl4 hl5 hl6 hl7 hl8 hsrc hcs hra e0 h4 h7 hba
   go_wp2_with (refine wpList_load_mid rfl 54 (.tmp 35) rfl b (off + y * 10) rfl [.int .u8 (kd : Nat), .slice a1 l1 c1, .slice a2 l2 c2, .slice a3 l3 c3, .int .u8 (s : Nat), .slice a4 l4 c4, .slice a5 l5 c5, .slice b1 l6 e1, .slice b2 l7 e2, .slice b3 l8 e3] _ HRA.out Tryz.underlying54 rfl node_info ?_)
   refine HCA.out.mono ?_
   rintro e w' ⟨rfl, n1, rfl⟩
   cases hp1 : decide (H = (nd t y).leaf.par) with
   | true =>
    have HBE := Lib.hid (show BB i = true by rw [HRB.out, HYT.out, hp1]; rfl)
    have HW7 := Lib.hid (below_drewN' HBA.out n1)
    have HBB7 := Lib.hid (below_drewN' HBBA.out n1)
    clear hp1
    go_wp2_with fail
    obtain ⟨g7, rfl⟩ : ∃ g7, g7 = gk := ⟨_, rfl⟩
    obtain ⟨w7, rfl⟩ : ∃ w7, w7 = wr := ⟨_, rfl⟩
    go_loopg [13, 14] dn (fun q av iv W => ∃ k : Nat, k + q = dn ∧ iv = .int .i64 (k : Nat) ∧ av = .bool (A (OO i) k) ∧ Below w.heap.size w W ∧ Below w4.heap.size w4 W)
    case atStart => exact ⟨0, by omega, rfl, by rw [H_AZ.out], HW7.out, HBB7.out⟩
    case round =>
     obtain ⟨k, hk, rfl, rfl, hb, hb4⟩ := hrel
     have HK := Lib.hid hk
     have HWK := Lib.hid hb
     have HBK := Lib.hid hb4
     clear hk hb hb4
     by_cases hltk : k < dn
     ·have hlt' : decide (k < dn) = true := decide_eq_true hltk
      have hltKI : (k : Int) < (dn : Int) := by omega
      have hD6 := HD4.out.below HBK.out (Nat.le_refl _)
      have HD6 := Lib.hid hD6
      obtain ⟨bd2, od2, e2', hlb2, cu2⟩ := H_DG.out wr _ _ hD6 k hltk
      obtain ⟨rfl, rfl⟩ : bd = bd2 ∧ od = od2 := by
       simp only [Option.some.injEq, Addr.mk.injEq, and_true] at e2'
       exact e2'
      obtain ⟨z, ez, hzn⟩ := H_DA.out k hltk
      rw [ez] at cu2
      have c9 := H_C9.out wr HWK.out
      have HOD := Lib.hid (H_OD.out i k)
      have HEZ := Lib.hid ez
      have hmod : Int.tmod (z : Int) 2 = ((z % 2 : Nat) : Int) := by rw [Int.tmod_eq_emod_of_nonneg (by omega)]; omega
      have hdiv : Int.tdiv (z : Int) 2 = ((z / 2 : Nat) : Int) := by rw [Int.tdiv_eq_ediv_of_nonneg (by omega)]; omega
      have hlbk := hlb2
      have hl9 : b < wr.heap.size := Nat.lt_of_lt_of_le hbl HWK.out.size
      clear hD6 e2' hlb2 ez
      by_cases hki : k = i
      ·subst hki
       have HA1 := Lib.hid (H_AN.out (OO k) k (by rw [HOD.out, decide_eq_false (by simp)]; rfl))
       clear hmod hdiv
       go_wp2_with fail
       refine wp_region_rel [fun v _ => v = .int .i64 (k : Nat), fun v _ => v = .int .i64 (k : Nat), fun v _ => v = .bool false, fun v _ => v = .bool false, fun v _ => v = undef, fun v _ => v = undef, fun v _ => v = undef, fun v _ => v = undef, fun v _ => v = undef, fun v _ => v = undef, fun v _ => v = undef, fun v _ => v = undef, fun v _ => v = undef, fun v _ => v = undef, fun v _ => v = undef, fun v _ => v = undef, fun v _ => v = undef, fun v _ => v = undef, fun v _ => v = undef, fun v _ => v = undef, fun v _ => v = undef, fun v _ => v = undef, fun v _ => v = undef, fun v _ => v = undef, fun v _ => v = undef, fun v _ => v = .bool false]
        [true, true, true, true, true, true, true, true, true, true, true, true, true, true, true, true, true, true, true, true, true, true, true, true, true, true] (fun x => Below wr.heap.size wr x) (fun x y => Below x.heap.size x y) none (by kernel_rfl) ?_ (⟨rfl, rfl, rfl, Nat.le_refl _, fun _ _ => rfl⟩) (fun x y _ h => h) (fun x y hx hs => hx.trans (hs.mono hx.size)) (by kernel_rfl) (by kernel_rfl) ?_ ?_
       ·exact keepsR_n (fun _ _ _ h _ _ => h) (keepsR_n (fun _ _ _ h _ _ => h) (keepsR_n (fun _ _ _ h _ _ => h) (keepsR_n (fun _ _ _ h _ _ => h) (keepsR_n (fun _ _ _ h _ _ => h) (keepsR_n (fun _ _ _ h _ _ => h) (keepsR_n (fun _ _ _ h _ _ => h) (keepsR_n (fun _ _ _ h _ _ => h) (keepsR_n (fun _ _ _ h _ _ => h) (keepsR_n (fun _ _ _ h _ _ => h) (keepsR_n (fun _ _ _ h _ _ => h) (keepsR_n (fun _ _ _ h _ _ => h) (keepsR_n (fun _ _ _ h _ _ => h) (keepsR_n (fun _ _ _ h _ _ => h) (keepsR_n (fun _ _ _ h _ _ => h) (keepsR_n (fun _ _ _ h _ _ => h) (keepsR_n (fun _ _ _ h _ _ => h) (keepsR_n (fun _ _ _ h _ _ => h) (keepsR_n (fun _ _ _ h _ _ => h) (keepsR_n (fun _ _ _ h _ _ => h) (keepsR_n (fun _ _ _ h _ _ => h) (keepsR_n (fun _ _ _ h _ _ => h) (keepsR_n (fun _ _ _ h _ _ => h) (keepsR_n (fun _ _ _ h _ _ => h) (keepsR_n (fun _ _ _ h _ _ => h) (keepsR_n (fun _ _ _ h _ _ => h) (keepsR_nil))))))))))))))))))))))))))
       ·refine .cons (owed7_go ?_) (.cons (owed7_go ?_) (.cons (owed7_go ?_) (.cons (owed7_go ?_) (.cons (owed7_off rfl rfl rfl ?_) (.cons (owed7_off rfl rfl rfl ?_) (.cons (owed7_off rfl rfl rfl ?_) (.cons (owed7_off rfl rfl rfl ?_) (.cons (owed7_off rfl rfl rfl ?_) (.cons (owed7_off rfl rfl rfl ?_) (.cons (owed7_off rfl rfl rfl ?_) (.cons (owed7_off rfl rfl rfl ?_) (.cons (owed7_off rfl rfl rfl ?_) (.cons (owed7_off rfl rfl rfl ?_) (.cons (owed7_off rfl rfl rfl ?_) (.cons (owed7_off rfl rfl rfl ?_) (.cons (owed7_off rfl rfl rfl ?_) (.cons (owed7_off rfl rfl rfl ?_) (.cons (owed7_off rfl rfl rfl ?_) (.cons (owed7_off rfl rfl rfl ?_) (.cons (owed7_off rfl rfl rfl ?_) (.cons (owed7_off rfl rfl rfl ?_) (.cons (owed7_off rfl rfl rfl ?_) (.cons (owed7_off rfl rfl rfl ?_) (.cons (owed7_off rfl rfl rfl ?_) (.cons (owed7_go ?_) (.nil))))))))))))))))))))))))))
        ·intro a wx hbx hq ho hf
         have hbx : Below wr.heap.size wr wx := hbx
         have hbq : Below wr.heap.size wr wx := hq (by kernel_rfl)
         clear hq
         refine ⟨rfl, ?_⟩
         intro K hK
         have e0 : a.tmps[14]?.getD undef = .int .i64 (k : Nat) := ho 14 (by kernel_rfl)
         go_simp
         exact hK _ _ rfl (stepR_no rfl (Below.refl _ _))
        ·intro a wx hbx hq ho hf
         have hbx : Below wr.heap.size wr wx := hbx
         have hbq : Below wr.heap.size wr wx := hq (by kernel_rfl)
         clear hq
         refine ⟨rfl, ?_⟩
         intro K hK
         have e0 : a.tmps[11]?.getD undef = .int .i64 (k : Nat) := ho 11 (by kernel_rfl)
         go_simp
         exact hK _ _ rfl (stepR_no rfl (Below.refl _ _))
        ·intro a wx hbx hq ho hf
         have hbx : Below wr.heap.size wr wx := hbx
         have hbq : Below wr.heap.size wr wx := hq (by kernel_rfl)
         clear hq
         refine ⟨rfl, ?_⟩
         intro K hK
         have e0 : a.tmps[57]?.getD undef = .int .i64 (k : Nat) := hf.1
         have e1 : a.tmps[58]?.getD undef = .int .i64 (k : Nat) := hf.2.1
         go_simp
         exact hK _ _ rfl (stepR_no rfl (Below.refl _ _))
        ·intro a wx hbx hq ho hf
         have hbx : Below wr.heap.size wr wx := hbx
         have hbq : Below wr.heap.size wr wx := hq (by kernel_rfl)
         clear hq
         refine ⟨rfl, ?_⟩
         intro K hK
         have e0 : a.tmps[59]?.getD undef = .bool false := hf.1
         go_simp
         exact hK _ _ rfl (stepR_no rfl (Below.refl _ _))
        ·intro a wx hf
         exact wanted_off7 (j := 3) (b := true) (s := 60) rfl rfl rfl (hf.1) (by first | (simp; done) | (simp [undef]; done) | (intro h; cases h))
        ·intro a wx hf
         exact wanted_off7 (j := 3) (b := true) (s := 60) rfl rfl rfl (hf.1) (by first | (simp; done) | (simp [undef]; done) | (intro h; cases h))
        ·intro a wx hf
         exact wanted_off7 (j := 3) (b := true) (s := 60) rfl rfl rfl (hf.2.2.1) (by first | (simp; done) | (simp [undef]; done) | (intro h; cases h))
        ·intro a wx hf
         exact wanted_off7 (j := 3) (b := true) (s := 60) rfl rfl rfl (hf.2.1) (by first | (simp; done) | (simp [undef]; done) | (intro h; cases h))
        ·intro a wx hf
         exact wanted_off7 (j := 3) (b := true) (s := 60) rfl rfl rfl (hf.2.1) (by first | (simp; done) | (simp [undef]; done) | (intro h; cases h))
        ·intro a wx hf
         exact wanted_off7 (j := 3) (b := true) (s := 60) rfl rfl rfl (hf.2.1) (by first | (simp; done) | (simp [undef]; done) | (intro h; cases h))
        ·intro a wx hf
         exact wanted_off7 (j := 3) (b := true) (s := 60) rfl rfl rfl (hf.2.1) (by first | (simp; done) | (simp [undef]; done) | (intro h; cases h))
        ·intro a wx hf
         exact wanted_off7 (j := 10) (b := false) (s := 67) rfl rfl rfl (hf.1) (by first | (simp; done) | (simp [undef]; done) | (intro h; cases h))
        ·intro a wx hf
         exact wanted_off7 (j := 10) (b := false) (s := 67) rfl rfl rfl (hf.1) (by first | (simp; done) | (simp [undef]; done) | (intro h; cases h))
        ·intro a wx hf
         exact wanted_off7 (j := 10) (b := false) (s := 67) rfl rfl rfl (hf.2.2.1) (by first | (simp; done) | (simp [undef]; done) | (intro h; cases h))
        ·intro a wx hf
         exact wanted_off7 (j := 10) (b := false) (s := 67) rfl rfl rfl (hf.2.1) (by first | (simp; done) | (simp [undef]; done) | (intro h; cases h))
        ·intro a wx hf
         exact wanted_off7 (j := 10) (b := false) (s := 67) rfl rfl rfl (hf.2.1) (by first | (simp; done) | (simp [undef]; done) | (intro h; cases h))
        ·intro a wx hf
         exact wanted_off7 (j := 10) (b := false) (s := 67) rfl rfl rfl (hf.2.1) (by first | (simp; done) | (simp [undef]; done) | (intro h; cases h))
        ·intro a wx hf
         exact wanted_off7 (j := 10) (b := false) (s := 67) rfl rfl rfl (hf.1) (by first | (simp; done) | (simp [undef]; done) | (intro h; cases h))
        ·intro a wx hf
         exact wanted_off7 (j := 10) (b := false) (s := 67) rfl rfl rfl (hf.1) (by first | (simp; done) | (simp [undef]; done) | (intro h; cases h))
        ·intro a wx hf
         exact wanted_off7 (j := 10) (b := false) (s := 67) rfl rfl rfl (hf.2.2.1) (by first | (simp; done) | (simp [undef]; done) | (intro h; cases h))
        ·intro a wx hf
         exact wanted_off7 (j := 10) (b := false) (s := 67) rfl rfl rfl (hf.2.1) (by first | (simp; done) | (simp [undef]; done) | (intro h; cases h))
        ·intro a wx hf
         exact wanted_off7 (j := 10) (b := false) (s := 67) rfl rfl rfl (hf.2.1) (by first | (simp; done) | (simp [undef]; done) | (intro h; cases h))
        ·intro a wx hf
         exact wanted_off7 (j := 10) (b := false) (s := 67) rfl rfl rfl (hf.2.2.1) (by first | (simp; done) | (simp [undef]; done) | (intro h; cases h))
        ·intro a wx hf
         exact wanted_off7 (j := 10) (b := false) (s := 67) rfl rfl rfl (hf.2.1) (by first | (simp; done) | (simp [undef]; done) | (intro h; cases h))
        ·intro a wx hf
         exact wanted_off7 (j := 3) (b := true) (s := 60) rfl rfl rfl (hf.2.2.1) (by first | (simp; done) | (simp [undef]; done) | (intro h; cases h))
        ·intro a wx hbx hq ho hf
         have hbx : Below wr.heap.size wr wx := hbx
         have hbq : Below wr.heap.size wr wx := hq (by kernel_rfl)
         clear hq
         refine ⟨rfl, ?_⟩
         intro K hK
         have e0 : a.tmps[60]?.getD undef = .bool false := hf.1
         go_simp
         exact hK _ _ rfl (stepR_no rfl (Below.refl _ _))
       ·rintro f w9 hb9 hfin
        have hb9 : Below wr.heap.size wr w9 := hb9
        have S82 : f 82 = .bool false := hfin.2.2.2.2.2.2.2.2.2.2.2.2.2.2.2.2.2.2.2.2.2.2.2.2.2.1
        clear hfin
        simp only [frameOf, dstsOf, zipF, List.filterMap_cons, List.filterMap_nil, List.contains_cons, List.contains_nil, Nat.reduceBEq, Nat.reduceAdd, Bool.or_false, Bool.or_true, cond_true, cond_false]
        rw [S82]
        clear S82
        have HW9 := Lib.hid (HWK.out.trans (hb9.mono HWK.out.size))
        have HB9 := Lib.hid (HBK.out.trans (hb9.mono HBK.out.size))
        clear hb9
        go_wp2_with fail
        go_roundg (gk - 1)
        case measure => have := HK.out; omega
        case rel => exact ⟨k + 1, by have := HK.out; omega, by go_num, by rw [HA1.out], HW9.out, HB9.out⟩
      ·have hkiI : ((k : Int) == (i : Int)) = false := by rw [beq_eq_false_iff_ne]; omega
       have hkiN : ((k : Int) != (i : Int)) = true := by rw [bne, hkiI]; rfl
       have hkiE : ¬ ((k : Int) = (i : Int)) := by omega
       have hkiF : ¬ (k = i) := hki
       by_cases hodd : z % 2 = 1
       ·rw [hodd] at hmod
        have hmodE : (z : Int) % 2 = 1 := by omega
        have HA1 := Lib.hid (H_AY.out (OO i) k (by rw [HOD.out, decide_eq_true hki, HEZ.out, decide_eq_true hmodE]; rfl))
        clear hdiv hodd
        go_wp2_with fail
        refine wp_region_rel [fun v _ => v = .int .i64 (k : Nat), fun v _ => v = .int .i64 (i : Nat), fun v _ => v = .bool true, fun v _ => v = .bool true, fun v _ => v = .slice (some ⟨bd, od, none⟩) dn dc, fun v _ => v = .int .i64 (k : Nat), fun v _ => v = .pointer (some ⟨bd, od + k, none⟩), fun v _ => v = .int .i64 (z : Nat), fun v _ => v = .int .i64 1, fun v _ => v = .bool true, fun v _ => v = .bool true, fun v _ => v = undef, fun v _ => v = undef, fun v _ => v = undef, fun v _ => v = undef, fun v _ => v = undef, fun v _ => v = undef, fun v _ => v = undef, fun v _ => v = undef, fun v _ => v = undef, fun v _ => v = undef, fun v _ => v = undef, fun v _ => v = undef, fun v _ => v = undef, fun v _ => v = .bool true, fun v _ => v = .bool true]
         [true, true, true, true, true, true, true, true, true, true, true, true, true, true, true, true, true, true, true, true, true, true, true, true, true, true] (fun x => Below wr.heap.size wr x) (fun x y => Below x.heap.size x y) none (by kernel_rfl) ?_ (⟨rfl, rfl, rfl, Nat.le_refl _, fun _ _ => rfl⟩) (fun x y _ h => h) (fun x y hx hs => hx.trans (hs.mono hx.size)) (by kernel_rfl) (by kernel_rfl) ?_ ?_
        ·exact keepsR_n (fun _ _ _ h _ _ => h) (keepsR_n (fun _ _ _ h _ _ => h) (keepsR_n (fun _ _ _ h _ _ => h) (keepsR_n (fun _ _ _ h _ _ => h) (keepsR_n (fun _ _ _ h _ _ => h) (keepsR_n (fun _ _ _ h _ _ => h) (keepsR_n (fun _ _ _ h _ _ => h) (keepsR_n (fun _ _ _ h _ _ => h) (keepsR_n (fun _ _ _ h _ _ => h) (keepsR_n (fun _ _ _ h _ _ => h) (keepsR_n (fun _ _ _ h _ _ => h) (keepsR_n (fun _ _ _ h _ _ => h) (keepsR_n (fun _ _ _ h _ _ => h) (keepsR_n (fun _ _ _ h _ _ => h) (keepsR_n (fun _ _ _ h _ _ => h) (keepsR_n (fun _ _ _ h _ _ => h) (keepsR_n (fun _ _ _ h _ _ => h) (keepsR_n (fun _ _ _ h _ _ => h) (keepsR_n (fun _ _ _ h _ _ => h) (keepsR_n (fun _ _ _ h _ _ => h) (keepsR_n (fun _ _ _ h _ _ => h) (keepsR_n (fun _ _ _ h _ _ => h) (keepsR_n (fun _ _ _ h _ _ => h) (keepsR_n (fun _ _ _ h _ _ => h) (keepsR_n (fun _ _ _ h _ _ => h) (keepsR_n (fun _ _ _ h _ _ => h) (keepsR_nil))))))))))))))))))))))))))
        ·refine .cons (owed7_go ?_) (.cons (owed7_go ?_) (.cons (owed7_go ?_) (.cons (owed7_go ?_) (.cons (owed7_go ?_) (.cons (owed7_go ?_) (.cons (owed7_go ?_) (.cons (owed7_go ?_) (.cons (owed7_go ?_) (.cons (owed7_go ?_) (.cons (owed7_go ?_) (.cons (owed7_off rfl rfl rfl ?_) (.cons (owed7_off rfl rfl rfl ?_) (.cons (owed7_off rfl rfl rfl ?_) (.cons (owed7_off rfl rfl rfl ?_) (.cons (owed7_off rfl rfl rfl ?_) (.cons (owed7_off rfl rfl rfl ?_) (.cons (owed7_off rfl rfl rfl ?_) (.cons (owed7_off rfl rfl rfl ?_) (.cons (owed7_off rfl rfl rfl ?_) (.cons (owed7_off rfl rfl rfl ?_) (.cons (owed7_off rfl rfl rfl ?_) (.cons (owed7_off rfl rfl rfl ?_) (.cons (owed7_off rfl rfl rfl ?_) (.cons (owed7_go ?_) (.cons (owed7_go ?_) (.nil))))))))))))))))))))))))))
         ·intro a wx hbx hq ho hf
          have hbx : Below wr.heap.size wr wx := hbx
          have hbq : Below wr.heap.size wr wx := hq (by kernel_rfl)
          clear hq
          refine ⟨rfl, ?_⟩
          intro K hK
          have e0 : a.tmps[14]?.getD undef = .int .i64 (k : Nat) := ho 14 (by kernel_rfl)
          go_simp
          exact hK _ _ rfl (stepR_no rfl (Below.refl _ _))
         ·intro a wx hbx hq ho hf
          have hbx : Below wr.heap.size wr wx := hbx
          have hbq : Below wr.heap.size wr wx := hq (by kernel_rfl)
          clear hq
          refine ⟨rfl, ?_⟩
          intro K hK
          have e0 : a.tmps[11]?.getD undef = .int .i64 (i : Nat) := ho 11 (by kernel_rfl)
          go_simp
          exact hK _ _ rfl (stepR_no rfl (Below.refl _ _))
         ·intro a wx hbx hq ho hf
          have hbx : Below wr.heap.size wr wx := hbx
          have hbq : Below wr.heap.size wr wx := hq (by kernel_rfl)
          clear hq
          refine ⟨rfl, ?_⟩
          intro K hK
          have e0 : a.tmps[57]?.getD undef = .int .i64 (k : Nat) := hf.1
          have e1 : a.tmps[58]?.getD undef = .int .i64 (i : Nat) := hf.2.1
          go_simp
          exact hK _ _ rfl (stepR_no rfl (Below.refl _ _))
         ·intro a wx hbx hq ho hf
          have hbx : Below wr.heap.size wr wx := hbx
          have hbq : Below wr.heap.size wr wx := hq (by kernel_rfl)
          clear hq
          refine ⟨rfl, ?_⟩
          intro K hK
          have e0 : a.tmps[59]?.getD undef = .bool true := hf.1
          go_simp
          exact hK _ _ rfl (stepR_no rfl (Below.refl _ _))
         ·intro a wx hbx hq ho hf
          have hbx : Below wr.heap.size wr wx := hbx
          have hbq : Below wr.heap.size wr wx := hq (by kernel_rfl)
          clear hq
          refine ⟨wanted_slot (j := 3) (b := true) (s := 60) rfl rfl rfl (hf.1), ?_⟩
          intro K hK
          have e0 : a.tmps[10]?.getD undef = .slice (some ⟨bd, od, none⟩) dn dc := ho 10 (by kernel_rfl)
          go_simp
          exact hK _ _ rfl (stepR_no rfl (Below.refl _ _))
         ·intro a wx hbx hq ho hf
          have hbx : Below wr.heap.size wr wx := hbx
          have hbq : Below wr.heap.size wr wx := hq (by kernel_rfl)
          clear hq
          refine ⟨wanted_slot (j := 3) (b := true) (s := 60) rfl rfl rfl (hf.1), ?_⟩
          intro K hK
          have e0 : a.tmps[14]?.getD undef = .int .i64 (k : Nat) := ho 14 (by kernel_rfl)
          go_simp
          exact hK _ _ rfl (stepR_no rfl (Below.refl _ _))
         ·intro a wx hbx hq ho hf
          have hbx : Below wr.heap.size wr wx := hbx
          have hbq : Below wr.heap.size wr wx := hq (by kernel_rfl)
          clear hq
          refine ⟨wanted_slot (j := 3) (b := true) (s := 60) rfl rfl rfl (hf.2.2.1), ?_⟩
          intro K hK
          have e0 : a.tmps[61]?.getD undef = .slice (some ⟨bd, od, none⟩) dn dc := hf.1
          have e1 : a.tmps[62]?.getD undef = .int .i64 (k : Nat) := hf.2.1
          go_simp
          exact hK _ _ rfl (stepR_no rfl (Below.refl _ _))
         ·intro a wx hbx hq ho hf
          have hbx : Below wr.heap.size wr wx := hbx
          have hbq : Below wr.heap.size wr wx := hq (by kernel_rfl)
          clear hq
          refine ⟨wanted_slot (j := 3) (b := true) (s := 60) rfl rfl rfl (hf.2.1), ?_⟩
          intro K hK
          have e0 : a.tmps[63]?.getD undef = .pointer (some ⟨bd, od + k, none⟩) := hf.1
          have d1 := (hbx.cell (p := ⟨bd, od + k, none⟩) hlbk).trans cu2
          go_simp
          exact hK _ _ rfl (stepR_no rfl (Below.refl _ _))
         ·intro a wx hbx hq ho hf
          have hbx : Below wr.heap.size wr wx := hbx
          have hbq : Below wr.heap.size wr wx := hq (by kernel_rfl)
          clear hq
          refine ⟨wanted_slot (j := 3) (b := true) (s := 60) rfl rfl rfl (hf.2.1), ?_⟩
          intro K hK
          have e0 : a.tmps[64]?.getD undef = .int .i64 (z : Nat) := hf.1
          have gw1 : IntKind.i64.wrap (1) = 1 := by rw [IntKind.wrap_i64]; omega
          have gw2 : (z : Int) % 2 = 1 := by omega
          have gw3 : IntKind.i64.wrap ((z : Int) % 2) = 1 := by rw [gw2]; exact gw1
          have gw4 : Int.tmod ((z : Int)) 2 = 1 := by rw [Int.tmod_eq_emod_of_nonneg (by omega)]; omega
          have gw5 : IntKind.i64.wrap (Int.tmod ((z : Int)) 2) = 1 := by rw [gw4]; exact gw1
          go_simp
          exact hK _ _ rfl (stepR_no rfl (Below.refl _ _))
         ·intro a wx hbx hq ho hf
          have hbx : Below wr.heap.size wr wx := hbx
          have hbq : Below wr.heap.size wr wx := hq (by kernel_rfl)
          clear hq
          refine ⟨wanted_slot (j := 3) (b := true) (s := 60) rfl rfl rfl (hf.2.1), ?_⟩
          intro K hK
          have e0 : a.tmps[65]?.getD undef = .int .i64 1 := hf.1
          go_simp
          exact hK _ _ rfl (stepR_no rfl (Below.refl _ _))
         ·intro a wx hbx hq ho hf
          have hbx : Below wr.heap.size wr wx := hbx
          have hbq : Below wr.heap.size wr wx := hq (by kernel_rfl)
          clear hq
          refine ⟨wanted_slot (j := 3) (b := true) (s := 60) rfl rfl rfl (hf.2.1), ?_⟩
          intro K hK
          have e0 : a.tmps[66]?.getD undef = .bool true := hf.1
          go_simp
          exact hK _ _ rfl (stepR_no rfl (Below.refl _ _))
         ·intro a wx hf
          exact wanted_off7 (j := 10) (b := false) (s := 67) rfl rfl rfl (hf.1) (by first | (simp; done) | (simp [undef]; done) | (intro h; cases h))
         ·intro a wx hf
          exact wanted_off7 (j := 10) (b := false) (s := 67) rfl rfl rfl (hf.1) (by first | (simp; done) | (simp [undef]; done) | (intro h; cases h))
         ·intro a wx hf
          exact wanted_off7 (j := 10) (b := false) (s := 67) rfl rfl rfl (hf.2.2.1) (by first | (simp; done) | (simp [undef]; done) | (intro h; cases h))
         ·intro a wx hf
          exact wanted_off7 (j := 10) (b := false) (s := 67) rfl rfl rfl (hf.2.1) (by first | (simp; done) | (simp [undef]; done) | (intro h; cases h))
         ·intro a wx hf
          exact wanted_off7 (j := 10) (b := false) (s := 67) rfl rfl rfl (hf.2.1) (by first | (simp; done) | (simp [undef]; done) | (intro h; cases h))
         ·intro a wx hf
          exact wanted_off7 (j := 10) (b := false) (s := 67) rfl rfl rfl (hf.2.1) (by first | (simp; done) | (simp [undef]; done) | (intro h; cases h))
         ·intro a wx hf
          exact wanted_off7 (j := 10) (b := false) (s := 67) rfl rfl rfl (hf.1) (by first | (simp; done) | (simp [undef]; done) | (intro h; cases h))
         ·intro a wx hf
          exact wanted_off7 (j := 10) (b := false) (s := 67) rfl rfl rfl (hf.1) (by first | (simp; done) | (simp [undef]; done) | (intro h; cases h))
         ·intro a wx hf
          exact wanted_off7 (j := 10) (b := false) (s := 67) rfl rfl rfl (hf.2.2.1) (by first | (simp; done) | (simp [undef]; done) | (intro h; cases h))
         ·intro a wx hf
          exact wanted_off7 (j := 10) (b := false) (s := 67) rfl rfl rfl (hf.2.1) (by first | (simp; done) | (simp [undef]; done) | (intro h; cases h))
         ·intro a wx hf
          exact wanted_off7 (j := 10) (b := false) (s := 67) rfl rfl rfl (hf.2.1) (by first | (simp; done) | (simp [undef]; done) | (intro h; cases h))
         ·intro a wx hf
          exact wanted_off7 (j := 10) (b := false) (s := 67) rfl rfl rfl (hf.2.2.1) (by first | (simp; done) | (simp [undef]; done) | (intro h; cases h))
         ·intro a wx hf
          exact wanted_off7 (j := 10) (b := false) (s := 67) rfl rfl rfl (hf.2.1) (by first | (simp; done) | (simp [undef]; done) | (intro h; cases h))
         ·intro a wx hbx hq ho hf
          have hbx : Below wr.heap.size wr wx := hbx
          have hbq : Below wr.heap.size wr wx := hq (by kernel_rfl)
          clear hq
          refine ⟨wanted_slot (j := 3) (b := true) (s := 60) rfl rfl rfl (hf.2.2.1), ?_⟩
          intro K hK
          have e0 : a.tmps[67]?.getD undef = .bool true := hf.1
          go_simp
          exact hK _ _ rfl (stepR_no rfl (Below.refl _ _))
         ·intro a wx hbx hq ho hf
          have hbx : Below wr.heap.size wr wx := hbx
          have hbq : Below wr.heap.size wr wx := hq (by kernel_rfl)
          clear hq
          refine ⟨rfl, ?_⟩
          intro K hK
          have e0 : a.tmps[60]?.getD undef = .bool true := hf.1
          have e1 : a.tmps[81]?.getD undef = .bool true := hf.2.1
          go_simp
          exact hK _ _ rfl (stepR_no rfl (Below.refl _ _))
        ·rintro f w9 hb9 hfin
         have hb9 : Below wr.heap.size wr w9 := hb9
         have S82 : f 82 = .bool true := hfin.2.2.2.2.2.2.2.2.2.2.2.2.2.2.2.2.2.2.2.2.2.2.2.2.2.1
         clear hfin
         simp only [frameOf, dstsOf, zipF, List.filterMap_cons, List.filterMap_nil, List.contains_cons, List.contains_nil, Nat.reduceBEq, Nat.reduceAdd, Bool.or_false, Bool.or_true, cond_true, cond_false]
         rw [S82]
         clear S82
         have HW9 := Lib.hid (HWK.out.trans (hb9.mono HWK.out.size))
         have HB9 := Lib.hid (HBK.out.trans (hb9.mono HBK.out.size))
         clear hb9
         go_wp2_with fail
         go_roundg (gk - 1)
         case measure => have := HK.out; omega
         case rel => exact ⟨k + 1, by have := HK.out; omega, by go_num, by rw [HA1.out], HW9.out, HB9.out⟩
       ·have h0 : z % 2 = 0 := by omega
        rw [h0] at hmod
        have hmodE : (z : Int) % 2 = 0 := by omega
        have hz2 : (z : Int) / 2 = ((z / 2 : Nat) : Int) := by omega
        obtain ⟨hh, hhe⟩ : ∃ x, x = z / 2 := ⟨_, rfl⟩
        rw [← hhe] at hdiv hz2
        have HCH := Lib.hid fun (W : World) (hW : Below wr.heap.size wr W) => H_HSL.out W (hh : Int) ((H_L9.out wr HWK.out).below hW (Nat.le_refl _))
        clear hodd h0 hhe
        cases hm : decide ((hh : Int) ∈ LL) with
        | true =>
         have HA1 := Lib.hid (H_AN.out (OO i) k (by rw [HOD.out, HEZ.out, hz2, hm, decide_eq_false (show ¬ ((z : Int) % 2 = 1) by omega)]; simp))
         rw [hm] at HCH
         clear hm
         go_wp2_with fail
         refine wp_region_rel [fun v _ => v = .int .i64 (k : Nat), fun v _ => v = .int .i64 (i : Nat), fun v _ => v = .bool true, fun v _ => v = .bool true, fun v _ => v = .slice (some ⟨bd, od, none⟩) dn dc, fun v _ => v = .int .i64 (k : Nat), fun v _ => v = .pointer (some ⟨bd, od + k, none⟩), fun v _ => v = .int .i64 (z : Nat), fun v _ => v = .int .i64 0, fun v _ => v = .bool false, fun v _ => v = .bool false, fun v _ => v = .slice (some ⟨b, off, none⟩) n tc, fun v _ => v = .int .i64 (p : Nat), fun v _ => v = .pointer (some ⟨b, off + p * 10, none⟩), fun v _ => v = .pointer (some ⟨b, off + p * 10 + 7, none⟩), fun v _ => v = .pointer (some ⟨b, off + p * 10 + 9, none⟩), fun v _ => v = .slice lb n8 le1, fun v _ => v = .slice (some ⟨bd, od, none⟩) dn dc, fun v _ => v = .int .i64 (k : Nat), fun v _ => v = .pointer (some ⟨bd, od + k, none⟩), fun v _ => v = .int .i64 (z : Nat), fun v _ => v = .int .i64 (hh : Nat), fun v _ => v = .bool true, fun v _ => v = .bool false, fun v _ => v = .bool false, fun v _ => v = .bool false]
          [true, true, true, true, true, true, true, true, true, true, true, true, true, true, true, true, true, true, true, true, true, true, true, true, true, true] (fun x => Below wr.heap.size wr x) (fun x y => Below x.heap.size x y) none (by kernel_rfl) ?_ (⟨rfl, rfl, rfl, Nat.le_refl _, fun _ _ => rfl⟩) (fun x y _ h => h) (fun x y hx hs => hx.trans (hs.mono hx.size)) (by kernel_rfl) (by kernel_rfl) ?_ ?_
         ·exact keepsR_n (fun _ _ _ h _ _ => h) (keepsR_n (fun _ _ _ h _ _ => h) (keepsR_n (fun _ _ _ h _ _ => h) (keepsR_n (fun _ _ _ h _ _ => h) (keepsR_n (fun _ _ _ h _ _ => h) (keepsR_n (fun _ _ _ h _ _ => h) (keepsR_n (fun _ _ _ h _ _ => h) (keepsR_n (fun _ _ _ h _ _ => h) (keepsR_n (fun _ _ _ h _ _ => h) (keepsR_n (fun _ _ _ h _ _ => h) (keepsR_n (fun _ _ _ h _ _ => h) (keepsR_n (fun _ _ _ h _ _ => h) (keepsR_n (fun _ _ _ h _ _ => h) (keepsR_n (fun _ _ _ h _ _ => h) (keepsR_n (fun _ _ _ h _ _ => h) (keepsR_n (fun _ _ _ h _ _ => h) (keepsR_n (fun _ _ _ h _ _ => h) (keepsR_n (fun _ _ _ h _ _ => h) (keepsR_n (fun _ _ _ h _ _ => h) (keepsR_n (fun _ _ _ h _ _ => h) (keepsR_n (fun _ _ _ h _ _ => h) (keepsR_n (fun _ _ _ h _ _ => h) (keepsR_n (fun _ _ _ h _ _ => h) (keepsR_n (fun _ _ _ h _ _ => h) (keepsR_n (fun _ _ _ h _ _ => h) (keepsR_n (fun _ _ _ h _ _ => h) (keepsR_nil))))))))))))))))))))))))))
         ·refine .cons (owed7_go ?_) (.cons (owed7_go ?_) (.cons (owed7_go ?_) (.cons (owed7_go ?_) (.cons (owed7_go ?_) (.cons (owed7_go ?_) (.cons (owed7_go ?_) (.cons (owed7_go ?_) (.cons (owed7_go ?_) (.cons (owed7_go ?_) (.cons (owed7_go ?_) (.cons (owed7_go ?_) (.cons (owed7_go ?_) (.cons (owed7_go ?_) (.cons (owed7_go ?_) (.cons (owed7_go ?_) (.cons (owed7_go ?_) (.cons (owed7_go ?_) (.cons (owed7_go ?_) (.cons (owed7_go ?_) (.cons (owed7_go ?_) (.cons (owed7_go ?_) (.cons (owed7_go ?_) (.cons (owed7_go ?_) (.cons (owed7_go ?_) (.cons (owed7_go ?_) (.nil))))))))))))))))))))))))))
          ·intro a wx hbx hq ho hf
           have hbx : Below wr.heap.size wr wx := hbx
           have hbq : Below wr.heap.size wr wx := hq (by kernel_rfl)
           clear hq
           refine ⟨rfl, ?_⟩
           intro K hK
           have e0 : a.tmps[14]?.getD undef = .int .i64 (k : Nat) := ho 14 (by kernel_rfl)
           go_simp
           exact hK _ _ rfl (stepR_no rfl (Below.refl _ _))
          ·intro a wx hbx hq ho hf
           have hbx : Below wr.heap.size wr wx := hbx
           have hbq : Below wr.heap.size wr wx := hq (by kernel_rfl)
           clear hq
           refine ⟨rfl, ?_⟩
           intro K hK
           have e0 : a.tmps[11]?.getD undef = .int .i64 (i : Nat) := ho 11 (by kernel_rfl)
           go_simp
           exact hK _ _ rfl (stepR_no rfl (Below.refl _ _))
          ·intro a wx hbx hq ho hf
           have hbx : Below wr.heap.size wr wx := hbx
           have hbq : Below wr.heap.size wr wx := hq (by kernel_rfl)
           clear hq
           refine ⟨rfl, ?_⟩
           intro K hK
           have e0 : a.tmps[57]?.getD undef = .int .i64 (k : Nat) := hf.1
           have e1 : a.tmps[58]?.getD undef = .int .i64 (i : Nat) := hf.2.1
           go_simp
           exact hK _ _ rfl (stepR_no rfl (Below.refl _ _))
          ·intro a wx hbx hq ho hf
           have hbx : Below wr.heap.size wr wx := hbx
           have hbq : Below wr.heap.size wr wx := hq (by kernel_rfl)
           clear hq
           refine ⟨rfl, ?_⟩
           intro K hK
           have e0 : a.tmps[59]?.getD undef = .bool true := hf.1
           go_simp
           exact hK _ _ rfl (stepR_no rfl (Below.refl _ _))
          ·intro a wx hbx hq ho hf
           have hbx : Below wr.heap.size wr wx := hbx
           have hbq : Below wr.heap.size wr wx := hq (by kernel_rfl)
           clear hq
           refine ⟨wanted_slot (j := 3) (b := true) (s := 60) rfl rfl rfl (hf.1), ?_⟩
           intro K hK
           have e0 : a.tmps[10]?.getD undef = .slice (some ⟨bd, od, none⟩) dn dc := ho 10 (by kernel_rfl)
           go_simp
           exact hK _ _ rfl (stepR_no rfl (Below.refl _ _))
          ·intro a wx hbx hq ho hf
           have hbx : Below wr.heap.size wr wx := hbx
           have hbq : Below wr.heap.size wr wx := hq (by kernel_rfl)
           clear hq
           refine ⟨wanted_slot (j := 3) (b := true) (s := 60) rfl rfl rfl (hf.1), ?_⟩
           intro K hK
           have e0 : a.tmps[14]?.getD undef = .int .i64 (k : Nat) := ho 14 (by kernel_rfl)
           go_simp
           exact hK _ _ rfl (stepR_no rfl (Below.refl _ _))
          ·intro a wx hbx hq ho hf
           have hbx : Below wr.heap.size wr wx := hbx
           have hbq : Below wr.heap.size wr wx := hq (by kernel_rfl)
           clear hq
           refine ⟨wanted_slot (j := 3) (b := true) (s := 60) rfl rfl rfl (hf.2.2.1), ?_⟩
           intro K hK
           have e0 : a.tmps[61]?.getD undef = .slice (some ⟨bd, od, none⟩) dn dc := hf.1
           have e1 : a.tmps[62]?.getD undef = .int .i64 (k : Nat) := hf.2.1
           go_simp
           exact hK _ _ rfl (stepR_no rfl (Below.refl _ _))
          ·intro a wx hbx hq ho hf
           have hbx : Below wr.heap.size wr wx := hbx
           have hbq : Below wr.heap.size wr wx := hq (by kernel_rfl)
           clear hq
           refine ⟨wanted_slot (j := 3) (b := true) (s := 60) rfl rfl rfl (hf.2.1), ?_⟩
           intro K hK
           have e0 : a.tmps[63]?.getD undef = .pointer (some ⟨bd, od + k, none⟩) := hf.1
           have d1 := (hbx.cell (p := ⟨bd, od + k, none⟩) hlbk).trans cu2
           go_simp
           exact hK _ _ rfl (stepR_no rfl (Below.refl _ _))
          ·intro a wx hbx hq ho hf
           have hbx : Below wr.heap.size wr wx := hbx
           have hbq : Below wr.heap.size wr wx := hq (by kernel_rfl)
           clear hq
           refine ⟨wanted_slot (j := 3) (b := true) (s := 60) rfl rfl rfl (hf.2.1), ?_⟩
           intro K hK
           have e0 : a.tmps[64]?.getD undef = .int .i64 (z : Nat) := hf.1
           have gw1 : IntKind.i64.wrap (0) = 0 := by rw [IntKind.wrap_i64]; omega
           have gw2 : (z : Int) % 2 = 0 := by omega
           have gw3 : IntKind.i64.wrap ((z : Int) % 2) = 0 := by rw [gw2]; exact gw1
           have gw4 : Int.tmod ((z : Int)) 2 = 0 := by rw [Int.tmod_eq_emod_of_nonneg (by omega)]; omega
           have gw5 : IntKind.i64.wrap (Int.tmod ((z : Int)) 2) = 0 := by rw [gw4]; exact gw1
           go_simp
           exact hK _ _ rfl (stepR_no rfl (Below.refl _ _))
          ·intro a wx hbx hq ho hf
           have hbx : Below wr.heap.size wr wx := hbx
           have hbq : Below wr.heap.size wr wx := hq (by kernel_rfl)
           clear hq
           refine ⟨wanted_slot (j := 3) (b := true) (s := 60) rfl rfl rfl (hf.2.1), ?_⟩
           intro K hK
           have e0 : a.tmps[65]?.getD undef = .int .i64 0 := hf.1
           go_simp
           exact hK _ _ rfl (stepR_no rfl (Below.refl _ _))
          ·intro a wx hbx hq ho hf
           have hbx : Below wr.heap.size wr wx := hbx
           have hbq : Below wr.heap.size wr wx := hq (by kernel_rfl)
           clear hq
           refine ⟨wanted_slot (j := 3) (b := true) (s := 60) rfl rfl rfl (hf.2.1), ?_⟩
           intro K hK
           have e0 : a.tmps[66]?.getD undef = .bool false := hf.1
           go_simp
           exact hK _ _ rfl (stepR_no rfl (Below.refl _ _))
          ·intro a wx hbx hq ho hf
           have hbx : Below wr.heap.size wr wx := hbx
           have hbq : Below wr.heap.size wr wx := hq (by kernel_rfl)
           clear hq
           refine ⟨wanted_slot (j := 10) (b := false) (s := 67) rfl rfl rfl (hf.1), ?_⟩
           intro K hK
           have e0 : a.tmps[0]?.getD undef = .slice (some ⟨b, off, none⟩) n tc := ho 0 (by kernel_rfl)
           go_simp
           exact hK _ _ rfl (stepR_no rfl (Below.refl _ _))
          ·intro a wx hbx hq ho hf
           have hbx : Below wr.heap.size wr wx := hbx
           have hbq : Below wr.heap.size wr wx := hq (by kernel_rfl)
           clear hq
           refine ⟨wanted_slot (j := 10) (b := false) (s := 67) rfl rfl rfl (hf.1), ?_⟩
           intro K hK
           have e0 : a.tmps[1]?.getD undef = .int .i64 (p : Nat) := ho 1 (by kernel_rfl)
           go_simp
           exact hK _ _ rfl (stepR_no rfl (Below.refl _ _))
          ·intro a wx hbx hq ho hf
           have hbx : Below wr.heap.size wr wx := hbx
           have hbq : Below wr.heap.size wr wx := hq (by kernel_rfl)
           clear hq
           refine ⟨wanted_slot (j := 10) (b := false) (s := 67) rfl rfl rfl (hf.2.2.1), ?_⟩
           intro K hK
           have e0 : a.tmps[68]?.getD undef = .slice (some ⟨b, off, none⟩) n tc := hf.1
           have e1 : a.tmps[69]?.getD undef = .int .i64 (p : Nat) := hf.2.1
           go_simp
           exact hK _ _ rfl (stepR_no rfl (Below.refl _ _))
          ·intro a wx hbx hq ho hf
           have hbx : Below wr.heap.size wr wx := hbx
           have hbq : Below wr.heap.size wr wx := hq (by kernel_rfl)
           clear hq
           refine ⟨wanted_slot (j := 10) (b := false) (s := 67) rfl rfl rfl (hf.2.1), ?_⟩
           intro K hK
           have e0 : a.tmps[70]?.getD undef = .pointer (some ⟨b, off + p * 10, none⟩) := hf.1
           go_simp
           exact hK _ _ rfl (stepR_no rfl (Below.refl _ _))
          ·intro a wx hbx hq ho hf
           have hbx : Below wr.heap.size wr wx := hbx
           have hbq : Below wr.heap.size wr wx := hq (by kernel_rfl)
           clear hq
           refine ⟨wanted_slot (j := 10) (b := false) (s := 67) rfl rfl rfl (hf.2.1), ?_⟩
           intro K hK
           have e0 : a.tmps[71]?.getD undef = .pointer (some ⟨b, off + p * 10 + 7, none⟩) := hf.1
           go_simp
           exact hK _ _ rfl (stepR_no rfl (Below.refl _ _))
          ·intro a wx hbx hq ho hf
           have hbx : Below wr.heap.size wr wx := hbx
           have hbq : Below wr.heap.size wr wx := hq (by kernel_rfl)
           clear hq
           refine ⟨wanted_slot (j := 10) (b := false) (s := 67) rfl rfl rfl (hf.2.1), ?_⟩
           intro K hK
           have e0 : a.tmps[72]?.getD undef = .pointer (some ⟨b, off + p * 10 + 9, none⟩) := hf.1
           have d1 := (hbx.cell (p := ⟨b, off + p * 10 + 9, none⟩) hl9).trans c9
           go_simp
           exact hK _ _ rfl (stepR_no rfl (Below.refl _ _))
          ·intro a wx hbx hq ho hf
           have hbx : Below wr.heap.size wr wx := hbx
           have hbq : Below wr.heap.size wr wx := hq (by kernel_rfl)
           clear hq
           refine ⟨wanted_slot (j := 10) (b := false) (s := 67) rfl rfl rfl (hf.1), ?_⟩
           intro K hK
           have e0 : a.tmps[10]?.getD undef = .slice (some ⟨bd, od, none⟩) dn dc := ho 10 (by kernel_rfl)
           go_simp
           exact hK _ _ rfl (stepR_no rfl (Below.refl _ _))
          ·intro a wx hbx hq ho hf
           have hbx : Below wr.heap.size wr wx := hbx
           have hbq : Below wr.heap.size wr wx := hq (by kernel_rfl)
           clear hq
           refine ⟨wanted_slot (j := 10) (b := false) (s := 67) rfl rfl rfl (hf.1), ?_⟩
           intro K hK
           have e0 : a.tmps[14]?.getD undef = .int .i64 (k : Nat) := ho 14 (by kernel_rfl)
           go_simp
           exact hK _ _ rfl (stepR_no rfl (Below.refl _ _))
          ·intro a wx hbx hq ho hf
           have hbx : Below wr.heap.size wr wx := hbx
           have hbq : Below wr.heap.size wr wx := hq (by kernel_rfl)
           clear hq
           refine ⟨wanted_slot (j := 10) (b := false) (s := 67) rfl rfl rfl (hf.2.2.1), ?_⟩
           intro K hK
           have e0 : a.tmps[74]?.getD undef = .slice (some ⟨bd, od, none⟩) dn dc := hf.1
           have e1 : a.tmps[75]?.getD undef = .int .i64 (k : Nat) := hf.2.1
           go_simp
           exact hK _ _ rfl (stepR_no rfl (Below.refl _ _))
          ·intro a wx hbx hq ho hf
           have hbx : Below wr.heap.size wr wx := hbx
           have hbq : Below wr.heap.size wr wx := hq (by kernel_rfl)
           clear hq
           refine ⟨wanted_slot (j := 10) (b := false) (s := 67) rfl rfl rfl (hf.2.1), ?_⟩
           intro K hK
           have e0 : a.tmps[76]?.getD undef = .pointer (some ⟨bd, od + k, none⟩) := hf.1
           have d1 := (hbx.cell (p := ⟨bd, od + k, none⟩) hlbk).trans cu2
           go_simp
           exact hK _ _ rfl (stepR_no rfl (Below.refl _ _))
          ·intro a wx hbx hq ho hf
           have hbx : Below wr.heap.size wr wx := hbx
           have hbq : Below wr.heap.size wr wx := hq (by kernel_rfl)
           clear hq
           refine ⟨wanted_slot (j := 10) (b := false) (s := 67) rfl rfl rfl (hf.2.1), ?_⟩
           intro K hK
           have e0 : a.tmps[77]?.getD undef = .int .i64 (z : Nat) := hf.1
           have gw1 : IntKind.i64.wrap ((hh : Int)) = (hh : Int) := by rw [IntKind.wrap_i64]; omega
           have gw2 : (z : Int) / 2 = (hh : Int) := by omega
           have gw3 : IntKind.i64.wrap ((z : Int) / 2) = (hh : Int) := by rw [gw2]; exact gw1
           have gw4 : Int.tdiv ((z : Int)) 2 = (hh : Int) := by rw [Int.tdiv_eq_ediv_of_nonneg (by omega)]; omega
           have gw5 : IntKind.i64.wrap (Int.tdiv ((z : Int)) 2) = (hh : Int) := by rw [gw4]; exact gw1
           go_simp
           exact hK _ _ rfl (stepR_no rfl (Below.refl _ _))
          ·intro a wx hbx hq ho hf
           have hbx : Below wr.heap.size wr wx := hbx
           have hbq : Below wr.heap.size wr wx := hq (by kernel_rfl)
           clear hq
           refine ⟨wanted_slot (j := 10) (b := false) (s := 67) rfl rfl rfl (hf.2.2.1), ?_⟩
           intro K hK
           have e0 : a.tmps[73]?.getD undef = .slice lb n8 le1 := hf.1
           have e1 : a.tmps[78]?.getD undef = .int .i64 (hh : Nat) := hf.2.1
           go_simp
           refine (HCH.out wx hbx).mono ?_
           rintro e w2 ⟨rfl, rfl⟩
           exact hK _ _ rfl (stepR_no rfl (Below.refl _ _))
          ·intro a wx hbx hq ho hf
           have hbx : Below wr.heap.size wr wx := hbx
           have hbq : Below wr.heap.size wr wx := hq (by kernel_rfl)
           clear hq
           refine ⟨wanted_slot (j := 10) (b := false) (s := 67) rfl rfl rfl (hf.2.1), ?_⟩
           intro K hK
           have e0 : a.tmps[79]?.getD undef = .bool true := hf.1
           go_simp
           exact hK _ _ rfl (stepR_no rfl (Below.refl _ _))
          ·intro a wx hbx hq ho hf
           have hbx : Below wr.heap.size wr wx := hbx
           have hbq : Below wr.heap.size wr wx := hq (by kernel_rfl)
           clear hq
           refine ⟨wanted_slot (j := 3) (b := true) (s := 60) rfl rfl rfl (hf.2.2.1), ?_⟩
           intro K hK
           have e0 : a.tmps[67]?.getD undef = .bool false := hf.1
           have e1 : a.tmps[80]?.getD undef = .bool false := hf.2.1
           go_simp
           exact hK _ _ rfl (stepR_no rfl (Below.refl _ _))
          ·intro a wx hbx hq ho hf
           have hbx : Below wr.heap.size wr wx := hbx
           have hbq : Below wr.heap.size wr wx := hq (by kernel_rfl)
           clear hq
           refine ⟨rfl, ?_⟩
           intro K hK
           have e0 : a.tmps[60]?.getD undef = .bool true := hf.1
           have e1 : a.tmps[81]?.getD undef = .bool false := hf.2.1
           go_simp
           exact hK _ _ rfl (stepR_no rfl (Below.refl _ _))
         ·rintro f w9 hb9 hfin
          have hb9 : Below wr.heap.size wr w9 := hb9
          have S82 : f 82 = .bool false := hfin.2.2.2.2.2.2.2.2.2.2.2.2.2.2.2.2.2.2.2.2.2.2.2.2.2.1
          clear hfin
          simp only [frameOf, dstsOf, zipF, List.filterMap_cons, List.filterMap_nil, List.contains_cons, List.contains_nil, Nat.reduceBEq, Nat.reduceAdd, Bool.or_false, Bool.or_true, cond_true, cond_false]
          rw [S82]
          clear S82
          have HW9 := Lib.hid (HWK.out.trans (hb9.mono HWK.out.size))
          have HB9 := Lib.hid (HBK.out.trans (hb9.mono HBK.out.size))
          clear hb9
          go_wp2_with fail
          go_roundg (gk - 1)
          case measure => have := HK.out; omega
          case rel => exact ⟨k + 1, by have := HK.out; omega, by go_num, by rw [HA1.out], HW9.out, HB9.out⟩
        | false =>
         have HA1 := Lib.hid (H_AY.out (OO i) k (by rw [HOD.out, HEZ.out, hz2, hm, decide_eq_true hki]; simp))
         rw [hm] at HCH
         clear hm
         go_wp2_with fail
         refine wp_region_rel [fun v _ => v = .int .i64 (k : Nat), fun v _ => v = .int .i64 (i : Nat), fun v _ => v = .bool true, fun v _ => v = .bool true, fun v _ => v = .slice (some ⟨bd, od, none⟩) dn dc, fun v _ => v = .int .i64 (k : Nat), fun v _ => v = .pointer (some ⟨bd, od + k, none⟩), fun v _ => v = .int .i64 (z : Nat), fun v _ => v = .int .i64 0, fun v _ => v = .bool false, fun v _ => v = .bool false, fun v _ => v = .slice (some ⟨b, off, none⟩) n tc, fun v _ => v = .int .i64 (p : Nat), fun v _ => v = .pointer (some ⟨b, off + p * 10, none⟩), fun v _ => v = .pointer (some ⟨b, off + p * 10 + 7, none⟩), fun v _ => v = .pointer (some ⟨b, off + p * 10 + 9, none⟩), fun v _ => v = .slice lb n8 le1, fun v _ => v = .slice (some ⟨bd, od, none⟩) dn dc, fun v _ => v = .int .i64 (k : Nat), fun v _ => v = .pointer (some ⟨bd, od + k, none⟩), fun v _ => v = .int .i64 (z : Nat), fun v _ => v = .int .i64 (hh : Nat), fun v _ => v = .bool false, fun v _ => v = .bool true, fun v _ => v = .bool true, fun v _ => v = .bool true]
          [true, true, true, true, true, true, true, true, true, true, true, true, true, true, true, true, true, true, true, true, true, true, true, true, true, true] (fun x => Below wr.heap.size wr x) (fun x y => Below x.heap.size x y) none (by kernel_rfl) ?_ (⟨rfl, rfl, rfl, Nat.le_refl _, fun _ _ => rfl⟩) (fun x y _ h => h) (fun x y hx hs => hx.trans (hs.mono hx.size)) (by kernel_rfl) (by kernel_rfl) ?_ ?_
         ·exact keepsR_n (fun _ _ _ h _ _ => h) (keepsR_n (fun _ _ _ h _ _ => h) (keepsR_n (fun _ _ _ h _ _ => h) (keepsR_n (fun _ _ _ h _ _ => h) (keepsR_n (fun _ _ _ h _ _ => h) (keepsR_n (fun _ _ _ h _ _ => h) (keepsR_n (fun _ _ _ h _ _ => h) (keepsR_n (fun _ _ _ h _ _ => h) (keepsR_n (fun _ _ _ h _ _ => h) (keepsR_n (fun _ _ _ h _ _ => h) (keepsR_n (fun _ _ _ h _ _ => h) (keepsR_n (fun _ _ _ h _ _ => h) (keepsR_n (fun _ _ _ h _ _ => h) (keepsR_n (fun _ _ _ h _ _ => h) (keepsR_n (fun _ _ _ h _ _ => h) (keepsR_n (fun _ _ _ h _ _ => h) (keepsR_n (fun _ _ _ h _ _ => h) (keepsR_n (fun _ _ _ h _ _ => h) (keepsR_n (fun _ _ _ h _ _ => h) (keepsR_n (fun _ _ _ h _ _ => h) (keepsR_n (fun _ _ _ h _ _ => h) (keepsR_n (fun _ _ _ h _ _ => h) (keepsR_n (fun _ _ _ h _ _ => h) (keepsR_n (fun _ _ _ h _ _ => h) (keepsR_n (fun _ _ _ h _ _ => h) (keepsR_n (fun _ _ _ h _ _ => h) (keepsR_nil))))))))))))))))))))))))))
         ·refine .cons (owed7_go ?_) (.cons (owed7_go ?_) (.cons (owed7_go ?_) (.cons (owed7_go ?_) (.cons (owed7_go ?_) (.cons (owed7_go ?_) (.cons (owed7_go ?_) (.cons (owed7_go ?_) (.cons (owed7_go ?_) (.cons (owed7_go ?_) (.cons (owed7_go ?_) (.cons (owed7_go ?_) (.cons (owed7_go ?_) (.cons (owed7_go ?_) (.cons (owed7_go ?_) (.cons (owed7_go ?_) (.cons (owed7_go ?_) (.cons (owed7_go ?_) (.cons (owed7_go ?_) (.cons (owed7_go ?_) (.cons (owed7_go ?_) (.cons (owed7_go ?_) (.cons (owed7_go ?_) (.cons (owed7_go ?_) (.cons (owed7_go ?_) (.cons (owed7_go ?_) (.nil))))))))))))))))))))))))))
          ·intro a wx hbx hq ho hf
           have hbx : Below wr.heap.size wr wx := hbx
           have hbq : Below wr.heap.size wr wx := hq (by kernel_rfl)
           clear hq
           refine ⟨rfl, ?_⟩
           intro K hK
           have e0 : a.tmps[14]?.getD undef = .int .i64 (k : Nat) := ho 14 (by kernel_rfl)
           go_simp
           exact hK _ _ rfl (stepR_no rfl (Below.refl _ _))
          ·intro a wx hbx hq ho hf
           have hbx : Below wr.heap.size wr wx := hbx
           have hbq : Below wr.heap.size wr wx := hq (by kernel_rfl)
           clear hq
           refine ⟨rfl, ?_⟩
           intro K hK
           have e0 : a.tmps[11]?.getD undef = .int .i64 (i : Nat) := ho 11 (by kernel_rfl)
           go_simp
           exact hK _ _ rfl (stepR_no rfl (Below.refl _ _))
          ·intro a wx hbx hq ho hf
           have hbx : Below wr.heap.size wr wx := hbx
           have hbq : Below wr.heap.size wr wx := hq (by kernel_rfl)
           clear hq
           refine ⟨rfl, ?_⟩
           intro K hK
           have e0 : a.tmps[57]?.getD undef = .int .i64 (k : Nat) := hf.1
           have e1 : a.tmps[58]?.getD undef = .int .i64 (i : Nat) := hf.2.1
           go_simp
           exact hK _ _ rfl (stepR_no rfl (Below.refl _ _))
          ·intro a wx hbx hq ho hf
           have hbx : Below wr.heap.size wr wx := hbx
           have hbq : Below wr.heap.size wr wx := hq (by kernel_rfl)
           clear hq
           refine ⟨rfl, ?_⟩
           intro K hK
           have e0 : a.tmps[59]?.getD undef = .bool true := hf.1
           go_simp
           exact hK _ _ rfl (stepR_no rfl (Below.refl _ _))
          ·intro a wx hbx hq ho hf
           have hbx : Below wr.heap.size wr wx := hbx
           have hbq : Below wr.heap.size wr wx := hq (by kernel_rfl)
           clear hq
           refine ⟨wanted_slot (j := 3) (b := true) (s := 60) rfl rfl rfl (hf.1), ?_⟩
           intro K hK
           have e0 : a.tmps[10]?.getD undef = .slice (some ⟨bd, od, none⟩) dn dc := ho 10 (by kernel_rfl)
           go_simp
           exact hK _ _ rfl (stepR_no rfl (Below.refl _ _))
          ·intro a wx hbx hq ho hf
           have hbx : Below wr.heap.size wr wx := hbx
           have hbq : Below wr.heap.size wr wx := hq (by kernel_rfl)
           clear hq
           refine ⟨wanted_slot (j := 3) (b := true) (s := 60) rfl rfl rfl (hf.1), ?_⟩
           intro K hK
           have e0 : a.tmps[14]?.getD undef = .int .i64 (k : Nat) := ho 14 (by kernel_rfl)
           go_simp
           exact hK _ _ rfl (stepR_no rfl (Below.refl _ _))
          ·intro a wx hbx hq ho hf
           have hbx : Below wr.heap.size wr wx := hbx
           have hbq : Below wr.heap.size wr wx := hq (by kernel_rfl)
           clear hq
           refine ⟨wanted_slot (j := 3) (b := true) (s := 60) rfl rfl rfl (hf.2.2.1), ?_⟩
           intro K hK
           have e0 : a.tmps[61]?.getD undef = .slice (some ⟨bd, od, none⟩) dn dc := hf.1
           have e1 : a.tmps[62]?.getD undef = .int .i64 (k : Nat) := hf.2.1
           go_simp
           exact hK _ _ rfl (stepR_no rfl (Below.refl _ _))
          ·intro a wx hbx hq ho hf
           have hbx : Below wr.heap.size wr wx := hbx
           have hbq : Below wr.heap.size wr wx := hq (by kernel_rfl)
           clear hq
           refine ⟨wanted_slot (j := 3) (b := true) (s := 60) rfl rfl rfl (hf.2.1), ?_⟩
           intro K hK
           have e0 : a.tmps[63]?.getD undef = .pointer (some ⟨bd, od + k, none⟩) := hf.1
           have d1 := (hbx.cell (p := ⟨bd, od + k, none⟩) hlbk).trans cu2
           go_simp
           exact hK _ _ rfl (stepR_no rfl (Below.refl _ _))
          ·intro a wx hbx hq ho hf
           have hbx : Below wr.heap.size wr wx := hbx
           have hbq : Below wr.heap.size wr wx := hq (by kernel_rfl)
           clear hq
           refine ⟨wanted_slot (j := 3) (b := true) (s := 60) rfl rfl rfl (hf.2.1), ?_⟩
           intro K hK
           have e0 : a.tmps[64]?.getD undef = .int .i64 (z : Nat) := hf.1
           have gw1 : IntKind.i64.wrap (0) = 0 := by rw [IntKind.wrap_i64]; omega
           have gw2 : (z : Int) % 2 = 0 := by omega
           have gw3 : IntKind.i64.wrap ((z : Int) % 2) = 0 := by rw [gw2]; exact gw1
           have gw4 : Int.tmod ((z : Int)) 2 = 0 := by rw [Int.tmod_eq_emod_of_nonneg (by omega)]; omega
           have gw5 : IntKind.i64.wrap (Int.tmod ((z : Int)) 2) = 0 := by rw [gw4]; exact gw1
           go_simp
           exact hK _ _ rfl (stepR_no rfl (Below.refl _ _))
          ·intro a wx hbx hq ho hf
           have hbx : Below wr.heap.size wr wx := hbx
           have hbq : Below wr.heap.size wr wx := hq (by kernel_rfl)
           clear hq
           refine ⟨wanted_slot (j := 3) (b := true) (s := 60) rfl rfl rfl (hf.2.1), ?_⟩
           intro K hK
           have e0 : a.tmps[65]?.getD undef = .int .i64 0 := hf.1
           go_simp
           exact hK _ _ rfl (stepR_no rfl (Below.refl _ _))
          ·intro a wx hbx hq ho hf
           have hbx : Below wr.heap.size wr wx := hbx
           have hbq : Below wr.heap.size wr wx := hq (by kernel_rfl)
           clear hq
           refine ⟨wanted_slot (j := 3) (b := true) (s := 60) rfl rfl rfl (hf.2.1), ?_⟩
           intro K hK
           have e0 : a.tmps[66]?.getD undef = .bool false := hf.1
           go_simp
           exact hK _ _ rfl (stepR_no rfl (Below.refl _ _))
          ·intro a wx hbx hq ho hf
           have hbx : Below wr.heap.size wr wx := hbx
           have hbq : Below wr.heap.size wr wx := hq (by kernel_rfl)
           clear hq
           refine ⟨wanted_slot (j := 10) (b := false) (s := 67) rfl rfl rfl (hf.1), ?_⟩
           intro K hK
           have e0 : a.tmps[0]?.getD undef = .slice (some ⟨b, off, none⟩) n tc := ho 0 (by kernel_rfl)
           go_simp
           exact hK _ _ rfl (stepR_no rfl (Below.refl _ _))
          ·intro a wx hbx hq ho hf
           have hbx : Below wr.heap.size wr wx := hbx
           have hbq : Below wr.heap.size wr wx := hq (by kernel_rfl)
           clear hq
           refine ⟨wanted_slot (j := 10) (b := false) (s := 67) rfl rfl rfl (hf.1), ?_⟩
           intro K hK
           have e0 : a.tmps[1]?.getD undef = .int .i64 (p : Nat) := ho 1 (by kernel_rfl)
           go_simp
           exact hK _ _ rfl (stepR_no rfl (Below.refl _ _))
          ·intro a wx hbx hq ho hf
           have hbx : Below wr.heap.size wr wx := hbx
           have hbq : Below wr.heap.size wr wx := hq (by kernel_rfl)
           clear hq
           refine ⟨wanted_slot (j := 10) (b := false) (s := 67) rfl rfl rfl (hf.2.2.1), ?_⟩
           intro K hK
           have e0 : a.tmps[68]?.getD undef = .slice (some ⟨b, off, none⟩) n tc := hf.1
           have e1 : a.tmps[69]?.getD undef = .int .i64 (p : Nat) := hf.2.1
           go_simp
           exact hK _ _ rfl (stepR_no rfl (Below.refl _ _))
          ·intro a wx hbx hq ho hf
           have hbx : Below wr.heap.size wr wx := hbx
           have hbq : Below wr.heap.size wr wx := hq (by kernel_rfl)
           clear hq
           refine ⟨wanted_slot (j := 10) (b := false) (s := 67) rfl rfl rfl (hf.2.1), ?_⟩
           intro K hK
           have e0 : a.tmps[70]?.getD undef = .pointer (some ⟨b, off + p * 10, none⟩) := hf.1
           go_simp
           exact hK _ _ rfl (stepR_no rfl (Below.refl _ _))
          ·intro a wx hbx hq ho hf
           have hbx : Below wr.heap.size wr wx := hbx
           have hbq : Below wr.heap.size wr wx := hq (by kernel_rfl)
           clear hq
           refine ⟨wanted_slot (j := 10) (b := false) (s := 67) rfl rfl rfl (hf.2.1), ?_⟩
           intro K hK
           have e0 : a.tmps[71]?.getD undef = .pointer (some ⟨b, off + p * 10 + 7, none⟩) := hf.1
           go_simp
           exact hK _ _ rfl (stepR_no rfl (Below.refl _ _))
          ·intro a wx hbx hq ho hf
           have hbx : Below wr.heap.size wr wx := hbx
           have hbq : Below wr.heap.size wr wx := hq (by kernel_rfl)
           clear hq
           refine ⟨wanted_slot (j := 10) (b := false) (s := 67) rfl rfl rfl (hf.2.1), ?_⟩
           intro K hK
           have e0 : a.tmps[72]?.getD undef = .pointer (some ⟨b, off + p * 10 + 9, none⟩) := hf.1
           have d1 := (hbx.cell (p := ⟨b, off + p * 10 + 9, none⟩) hl9).trans c9
           go_simp
           exact hK _ _ rfl (stepR_no rfl (Below.refl _ _))
          ·intro a wx hbx hq ho hf
           have hbx : Below wr.heap.size wr wx := hbx
           have hbq : Below wr.heap.size wr wx := hq (by kernel_rfl)
           clear hq
           refine ⟨wanted_slot (j := 10) (b := false) (s := 67) rfl rfl rfl (hf.1), ?_⟩
           intro K hK
           have e0 : a.tmps[10]?.getD undef = .slice (some ⟨bd, od, none⟩) dn dc := ho 10 (by kernel_rfl)
           go_simp
           exact hK _ _ rfl (stepR_no rfl (Below.refl _ _))
          ·intro a wx hbx hq ho hf
           have hbx : Below wr.heap.size wr wx := hbx
           have hbq : Below wr.heap.size wr wx := hq (by kernel_rfl)
           clear hq
           refine ⟨wanted_slot (j := 10) (b := false) (s := 67) rfl rfl rfl (hf.1), ?_⟩
           intro K hK
           have e0 : a.tmps[14]?.getD undef = .int .i64 (k : Nat) := ho 14 (by kernel_rfl)
           go_simp
           exact hK _ _ rfl (stepR_no rfl (Below.refl _ _))
          ·intro a wx hbx hq ho hf
           have hbx : Below wr.heap.size wr wx := hbx
           have hbq : Below wr.heap.size wr wx := hq (by kernel_rfl)
           clear hq
           refine ⟨wanted_slot (j := 10) (b := false) (s := 67) rfl rfl rfl (hf.2.2.1), ?_⟩
           intro K hK
           have e0 : a.tmps[74]?.getD undef = .slice (some ⟨bd, od, none⟩) dn dc := hf.1
           have e1 : a.tmps[75]?.getD undef = .int .i64 (k : Nat) := hf.2.1
           go_simp
           exact hK _ _ rfl (stepR_no rfl (Below.refl _ _))
          ·intro a wx hbx hq ho hf
           have hbx : Below wr.heap.size wr wx := hbx
           have hbq : Below wr.heap.size wr wx := hq (by kernel_rfl)
           clear hq
           refine ⟨wanted_slot (j := 10) (b := false) (s := 67) rfl rfl rfl (hf.2.1), ?_⟩
           intro K hK
           have e0 : a.tmps[76]?.getD undef = .pointer (some ⟨bd, od + k, none⟩) := hf.1
           have d1 := (hbx.cell (p := ⟨bd, od + k, none⟩) hlbk).trans cu2
           go_simp
           exact hK _ _ rfl (stepR_no rfl (Below.refl _ _))
          ·intro a wx hbx hq ho hf
           have hbx : Below wr.heap.size wr wx := hbx
           have hbq : Below wr.heap.size wr wx := hq (by kernel_rfl)
           clear hq
           refine ⟨wanted_slot (j := 10) (b := false) (s := 67) rfl rfl rfl (hf.2.1), ?_⟩
           intro K hK
           have e0 : a.tmps[77]?.getD undef = .int .i64 (z : Nat) := hf.1
           have gw1 : IntKind.i64.wrap ((hh : Int)) = (hh : Int) := by rw [IntKind.wrap_i64]; omega
           have gw2 : (z : Int) / 2 = (hh : Int) := by omega
           have gw3 : IntKind.i64.wrap ((z : Int) / 2) = (hh : Int) := by rw [gw2]; exact gw1
           have gw4 : Int.tdiv ((z : Int)) 2 = (hh : Int) := by rw [Int.tdiv_eq_ediv_of_nonneg (by omega)]; omega
           have gw5 : IntKind.i64.wrap (Int.tdiv ((z : Int)) 2) = (hh : Int) := by rw [gw4]; exact gw1
           go_simp
           exact hK _ _ rfl (stepR_no rfl (Below.refl _ _))
          ·intro a wx hbx hq ho hf
           have hbx : Below wr.heap.size wr wx := hbx
           have hbq : Below wr.heap.size wr wx := hq (by kernel_rfl)
           clear hq
           refine ⟨wanted_slot (j := 10) (b := false) (s := 67) rfl rfl rfl (hf.2.2.1), ?_⟩
           intro K hK
           have e0 : a.tmps[73]?.getD undef = .slice lb n8 le1 := hf.1
           have e1 : a.tmps[78]?.getD undef = .int .i64 (hh : Nat) := hf.2.1
           go_simp
           refine (HCH.out wx hbx).mono ?_
           rintro e w2 ⟨rfl, rfl⟩
           exact hK _ _ rfl (stepR_no rfl (Below.refl _ _))
          ·intro a wx hbx hq ho hf
           have hbx : Below wr.heap.size wr wx := hbx
           have hbq : Below wr.heap.size wr wx := hq (by kernel_rfl)
           clear hq
           refine ⟨wanted_slot (j := 10) (b := false) (s := 67) rfl rfl rfl (hf.2.1), ?_⟩
           intro K hK
           have e0 : a.tmps[79]?.getD undef = .bool false := hf.1
           go_simp
           exact hK _ _ rfl (stepR_no rfl (Below.refl _ _))
          ·intro a wx hbx hq ho hf
           have hbx : Below wr.heap.size wr wx := hbx
           have hbq : Below wr.heap.size wr wx := hq (by kernel_rfl)
           clear hq
           refine ⟨wanted_slot (j := 3) (b := true) (s := 60) rfl rfl rfl (hf.2.2.1), ?_⟩
           intro K hK
           have e0 : a.tmps[67]?.getD undef = .bool false := hf.1
           have e1 : a.tmps[80]?.getD undef = .bool true := hf.2.1
           go_simp
           exact hK _ _ rfl (stepR_no rfl (Below.refl _ _))
          ·intro a wx hbx hq ho hf
           have hbx : Below wr.heap.size wr wx := hbx
           have hbq : Below wr.heap.size wr wx := hq (by kernel_rfl)
           clear hq
           refine ⟨rfl, ?_⟩
           intro K hK
           have e0 : a.tmps[60]?.getD undef = .bool true := hf.1
           have e1 : a.tmps[81]?.getD undef = .bool true := hf.2.1
           go_simp
           exact hK _ _ rfl (stepR_no rfl (Below.refl _ _))
         ·rintro f w9 hb9 hfin
          have hb9 : Below wr.heap.size wr w9 := hb9
          have S82 : f 82 = .bool true := hfin.2.2.2.2.2.2.2.2.2.2.2.2.2.2.2.2.2.2.2.2.2.2.2.2.2.1
          clear hfin
          simp only [frameOf, dstsOf, zipF, List.filterMap_cons, List.filterMap_nil, List.contains_cons, List.contains_nil, Nat.reduceBEq, Nat.reduceAdd, Bool.or_false, Bool.or_true, cond_true, cond_false]
          rw [S82]
          clear S82
          have HW9 := Lib.hid (HWK.out.trans (hb9.mono HWK.out.size))
          have HB9 := Lib.hid (HBK.out.trans (hb9.mono HBK.out.size))
          clear hb9
          go_wp2_with fail
          go_roundg (gk - 1)
          case measure => have := HK.out; omega
          case rel => exact ⟨k + 1, by have := HK.out; omega, by go_num, by rw [HA1.out], HW9.out, HB9.out⟩
     ·obtain rfl : k = dn := by have := HK.out; omega
      have hlt' : decide (k < k) = false := decide_eq_false hltk
      clear hltk
      obtain ⟨w8, rfl⟩ : ∃ w8, w8 = wr := ⟨_, rfl⟩
      obtain ⟨AO, hAO⟩ : ∃ a, a = A (OO i) k := ⟨_, rfl⟩
      have HAO := Lib.hid hAO
      rw [← hAO]
      clear hAO
      go_wp2_with fail
      obtain ⟨g8, rfl⟩ : ∃ g8, g8 = gk := ⟨_, rfl⟩
      go_loopg [13, 15] n8 (fun q av iv W => ∃ j : Nat, j + q = n8 ∧ iv = .int .i64 (j : Nat) ∧ av = .bool (AO && A (PO i) j) ∧ Below w.heap.size w W ∧ Below w4.heap.size w4 W)
      case atStart => exact ⟨0, by omega, rfl, by rw [H_AZ.out, Bool.and_true], HWK.out, HBK.out⟩
      case round =>
       obtain ⟨j, hj, rfl, rfl, hb, hb4⟩ := hrel
       have HJJ := Lib.hid hj
       have HWJ := Lib.hid hb
       have HBJ := Lib.hid hb4
       have c9 := H_C9.out wr HWJ.out
       clear hj hb hb4
       by_cases hltj : j < n8
       ·have hlt' : decide (j < n8) = true := decide_eq_true hltj
        have hltJI : (j : Int) < (n8 : Int) := by omega
        obtain ⟨bl, ol, rfl, hlbl, cl⟩ := H_LG.out wr HWJ.out j hltj
        obtain ⟨m, em, hm⟩ := H_LUr.out j hltj
        rw [em] at cl
        have HLO := Lib.hid (H_LO.out i j)
        have HEM := Lib.hid em
        have CU := Lib.hid (H_UN.out (m : Int) wr)
        clear em
        cases hu : undZ (2 * (m : Int)) (c : Int) with
        | false =>
         rw [hu] at CU
         have HA2 := Lib.hid (H_AN.out (PO i) j (by rw [HLO.out, HEM.out, hu]; rfl))
         clear hu
         go_wp2_with fail
         refine CU.out.mono ?_
         rintro e w9 ⟨rfl, hb9⟩
         have HW9 := Lib.hid (HWJ.out.trans (hb9.mono HWJ.out.size))
         have HB9 := Lib.hid (HBJ.out.trans (hb9.mono HBJ.out.size))
         clear hb9
         go_wp2_with fail
         go_roundg (gk - 1)
         case measure => have := HJJ.out; omega
         case rel => exact ⟨j + 1, by have := HJJ.out; omega, by go_num, by rw [HA2.out], HW9.out, HB9.out⟩
        | true =>
         rw [hu] at CU
         go_wp2_with fail
         refine CU.out.mono ?_
         rintro e w9 ⟨rfl, hb9⟩
         have HW9 := Lib.hid (HWJ.out.trans (hb9.mono HWJ.out.size))
         have HB9 := Lib.hid (HBJ.out.trans (hb9.mono HBJ.out.size))
         have hD9 := HD4.out.below HB9.out (Nat.le_refl _)
         obtain ⟨bd3, od3, e3', hlb3, cu3⟩ := H_DG.out w9 _ _ hD9 i hlti
         obtain ⟨rfl, rfl⟩ : bd = bd3 ∧ od = od3 := by
          simp only [Option.some.injEq, Addr.mk.injEq, and_true] at e3'
          exact e3'
         rw [HEY.out] at cu3
         have HCH := Lib.hid (H_HSD.out w9 _ _ (2 * (m : Int)) hD9)
         clear hb9 hD9 e3' hlb3
         by_cases hmy : 2 * m = y
         ·have HA2 := Lib.hid (H_AY.out (PO i) j (by rw [HLO.out, HEM.out, HEY.out, hu, decide_eq_true (show 2 * (m : Int) = (y : Int) by omega)]; rfl))
          have hq1 : (2 * (m : Int) == (y : Int)) = true := by rw [beq_iff_eq]; omega
          have hq2 : 2 * (m : Int) = (y : Int) := by omega
          clear hu hmy
          go_wp2_with fail
          go_roundg (gk - 1)
          case measure => have := HJJ.out; omega
          case rel => exact ⟨j + 1, by have := HJJ.out; omega, by go_num, by rw [HA2.out, Bool.and_false], HW9.out, HB9.out⟩
         ·have hq1 : (2 * (m : Int) == (y : Int)) = false := by rw [beq_eq_false_iff_ne]; omega
          have hq2 : ¬ (2 * (m : Int) = (y : Int)) := by omega
          cases hmd : decide (2 * (m : Int) ∈ D) with
          | true =>
           have HA2 := Lib.hid (H_AN.out (PO i) j (by rw [HLO.out, HEM.out, HEY.out, hu, hmd, decide_eq_false hq2]; rfl))
           rw [hmd] at HCH
           clear hu hmy hmd
           go_wp2_with fail
           refine HCH.out.mono ?_
           rintro e w' ⟨rfl, rfl⟩
           go_wp2_with fail
           go_roundg (gk - 1)
           case measure => have := HJJ.out; omega
           case rel => exact ⟨j + 1, by have := HJJ.out; omega, by go_num, by rw [HA2.out], HW9.out, HB9.out⟩
          | false =>
           have HA2 := Lib.hid (H_AY.out (PO i) j (by rw [HLO.out, HEM.out, hu, hmd]; simp))
           rw [hmd] at HCH
           clear hu hmy hmd
           go_wp2_with fail
           refine HCH.out.mono ?_
           rintro e w' ⟨rfl, rfl⟩
           go_wp2_with fail
           go_roundg (gk - 1)
           case measure => have := HJJ.out; omega
           case rel => exact ⟨j + 1, by have := HJJ.out; omega, by go_num, by rw [HA2.out, Bool.and_false], HW9.out, HB9.out⟩
       ·obtain rfl : j = n8 := by have := HJJ.out; omega
        have hlt' : decide (j < j) = false := decide_eq_false hltj
        clear hltj
        cases hal : (AO && A (PO i) j) with
        | true =>
         have hal2 := hal
         rw [Bool.and_eq_true] at hal2
         have HY := Lib.hid (H_YES.out i hlti HBE.out (by rw [← HAO.out]; exact hal2.1) hal2.2)
         clear hal hal2
         go_wp2_with fail
         go_ret
         exact ⟨by rw [HY.out]; rfl, HWJ.out⟩
        | false =>
         have HN := Lib.hid (H_NO2.out i (by rw [← HAO.out]; exact hal))
         clear hal
         go_wp2_with fail
         go_roundg (g7 - 1)
         case measure => have := HI.out; omega
         case rel =>
          refine ⟨i + 1, by have := HI.out; omega, by go_num, HWJ.out, HBJ.out, fun q hq => ?_⟩
          by_cases e : q = i
          ·rw [e]; exact HN.out
          ·exact HJ.out q (by omega)
   | false =>
    go_wp2_with fail
    refine (HCB.out n1).mono ?_
    rintro e w' ⟨rfl, n2, rfl⟩
    have HW7 := Lib.hid (below_drewN' HBA.out (n1 + n2))
    have HBB7 := Lib.hid (below_drewN' HBBA.out (n1 + n2))
    cases hp2 : decide (H = (nd t y).par.hash) with
    | true =>
     have HBE := Lib.hid (show BB i = true by rw [HRB.out, HYT.out, hp1, hp2]; rfl)
     clear hp1 hp2
     go_wp2_with fail
     obtain ⟨g7, rfl⟩ : ∃ g7, g7 = gk := ⟨_, rfl⟩
     obtain ⟨w7, rfl⟩ : ∃ w7, w7 = wr := ⟨_, rfl⟩
     go_loopg [13, 14] dn (fun q av iv W => ∃ k : Nat, k + q = dn ∧ iv = .int .i64 (k : Nat) ∧ av = .bool (A (OO i) k) ∧ Below w.heap.size w W ∧ Below w4.heap.size w4 W)
     case atStart => exact ⟨0, by omega, rfl, by rw [H_AZ.out], HW7.out, HBB7.out⟩
     case round =>
      obtain ⟨k, hk, rfl, rfl, hb, hb4⟩ := hrel
      have HK := Lib.hid hk
      have HWK := Lib.hid hb
      have HBK := Lib.hid hb4
      clear hk hb hb4
      by_cases hltk : k < dn
      ·have hlt' : decide (k < dn) = true := decide_eq_true hltk
       have hltKI : (k : Int) < (dn : Int) := by omega
       have hD6 := HD4.out.below HBK.out (Nat.le_refl _)
       have HD6 := Lib.hid hD6
       obtain ⟨bd2, od2, e2', hlb2, cu2⟩ := H_DG.out wr _ _ hD6 k hltk
       obtain ⟨rfl, rfl⟩ : bd = bd2 ∧ od = od2 := by
        simp only [Option.some.injEq, Addr.mk.injEq, and_true] at e2'
        exact e2'
       obtain ⟨z, ez, hzn⟩ := H_DA.out k hltk
       rw [ez] at cu2
       have c9 := H_C9.out wr HWK.out
       have HOD := Lib.hid (H_OD.out i k)
       have HEZ := Lib.hid ez
       have hmod : Int.tmod (z : Int) 2 = ((z % 2 : Nat) : Int) := by rw [Int.tmod_eq_emod_of_nonneg (by omega)]; omega
       have hdiv : Int.tdiv (z : Int) 2 = ((z / 2 : Nat) : Int) := by rw [Int.tdiv_eq_ediv_of_nonneg (by omega)]; omega
       have hlbk := hlb2
       have hl9 : b < wr.heap.size := Nat.lt_of_lt_of_le hbl HWK.out.size
       clear hD6 e2' hlb2 ez
       by_cases hki : k = i
       ·subst hki
        have HA1 := Lib.hid (H_AN.out (OO k) k (by rw [HOD.out, decide_eq_false (by simp)]; rfl))
        clear hmod hdiv
        go_wp2_with fail
        refine wp_region_rel [fun v _ => v = .int .i64 (k : Nat), fun v _ => v = .int .i64 (k : Nat), fun v _ => v = .bool false, fun v _ => v = .bool false, fun v _ => v = undef, fun v _ => v = undef, fun v _ => v = undef, fun v _ => v = undef, fun v _ => v = undef, fun v _ => v = undef, fun v _ => v = undef, fun v _ => v = undef, fun v _ => v = undef, fun v _ => v = undef, fun v _ => v = undef, fun v _ => v = undef, fun v _ => v = undef, fun v _ => v = undef, fun v _ => v = undef, fun v _ => v = undef, fun v _ => v = undef, fun v _ => v = undef, fun v _ => v = undef, fun v _ => v = undef, fun v _ => v = undef, fun v _ => v = .bool false]
         [true, true, true, true, true, true, true, true, true, true, true, true, true, true, true, true, true, true, true, true, true, true, true, true, true, true] (fun x => Below wr.heap.size wr x) (fun x y => Below x.heap.size x y) none (by kernel_rfl) ?_ (⟨rfl, rfl, rfl, Nat.le_refl _, fun _ _ => rfl⟩) (fun x y _ h => h) (fun x y hx hs => hx.trans (hs.mono hx.size)) (by kernel_rfl) (by kernel_rfl) ?_ ?_
        ·exact keepsR_n (fun _ _ _ h _ _ => h) (keepsR_n (fun _ _ _ h _ _ => h) (keepsR_n (fun _ _ _ h _ _ => h) (keepsR_n (fun _ _ _ h _ _ => h) (keepsR_n (fun _ _ _ h _ _ => h) (keepsR_n (fun _ _ _ h _ _ => h) (keepsR_n (fun _ _ _ h _ _ => h) (keepsR_n (fun _ _ _ h _ _ => h) (keepsR_n (fun _ _ _ h _ _ => h) (keepsR_n (fun _ _ _ h _ _ => h) (keepsR_n (fun _ _ _ h _ _ => h) (keepsR_n (fun _ _ _ h _ _ => h) (keepsR_n (fun _ _ _ h _ _ => h) (keepsR_n (fun _ _ _ h _ _ => h) (keepsR_n (fun _ _ _ h _ _ => h) (keepsR_n (fun _ _ _ h _ _ => h) (keepsR_n (fun _ _ _ h _ _ => h) (keepsR_n (fun _ _ _ h _ _ => h) (keepsR_n (fun _ _ _ h _ _ => h) (keepsR_n (fun _ _ _ h _ _ => h) (keepsR_n (fun _ _ _ h _ _ => h) (keepsR_n (fun _ _ _ h _ _ => h) (keepsR_n (fun _ _ _ h _ _ => h) (keepsR_n (fun _ _ _ h _ _ => h) (keepsR_n (fun _ _ _ h _ _ => h) (keepsR_n (fun _ _ _ h _ _ => h) (keepsR_nil))))))))))))))))))))))))))
        ·refine .cons (owed7_go ?_) (.cons (owed7_go ?_) (.cons (owed7_go ?_) (.cons (owed7_go ?_) (.cons (owed7_off rfl rfl rfl ?_) (.cons (owed7_off rfl rfl rfl ?_) (.cons (owed7_off rfl rfl rfl ?_) (.cons (owed7_off rfl rfl rfl ?_) (.cons (owed7_off rfl rfl rfl ?_) (.cons (owed7_off rfl rfl rfl ?_) (.cons (owed7_off rfl rfl rfl ?_) (.cons (owed7_off rfl rfl rfl ?_) (.cons (owed7_off rfl rfl rfl ?_) (.cons (owed7_off rfl rfl rfl ?_) (.cons (owed7_off rfl rfl rfl ?_) (.cons (owed7_off rfl rfl rfl ?_) (.cons (owed7_off rfl rfl rfl ?_) (.cons (owed7_off rfl rfl rfl ?_) (.cons (owed7_off rfl rfl rfl ?_) (.cons (owed7_off rfl rfl rfl ?_) (.cons (owed7_off rfl rfl rfl ?_) (.cons (owed7_off rfl rfl rfl ?_) (.cons (owed7_off rfl rfl rfl ?_) (.cons (owed7_off rfl rfl rfl ?_) (.cons (owed7_off rfl rfl rfl ?_) (.cons (owed7_go ?_) (.nil))))))))))))))))))))))))))
         ·intro a wx hbx hq ho hf
          have hbx : Below wr.heap.size wr wx := hbx
          have hbq : Below wr.heap.size wr wx := hq (by kernel_rfl)
          clear hq
          refine ⟨rfl, ?_⟩
          intro K hK
          have e0 : a.tmps[14]?.getD undef = .int .i64 (k : Nat) := ho 14 (by kernel_rfl)
          go_simp
          exact hK _ _ rfl (stepR_no rfl (Below.refl _ _))
         ·intro a wx hbx hq ho hf
          have hbx : Below wr.heap.size wr wx := hbx
          have hbq : Below wr.heap.size wr wx := hq (by kernel_rfl)
          clear hq
          refine ⟨rfl, ?_⟩
          intro K hK
          have e0 : a.tmps[11]?.getD undef = .int .i64 (k : Nat) := ho 11 (by kernel_rfl)
          go_simp
          exact hK _ _ rfl (stepR_no rfl (Below.refl _ _))
         ·intro a wx hbx hq ho hf
          have hbx : Below wr.heap.size wr wx := hbx
          have hbq : Below wr.heap.size wr wx := hq (by kernel_rfl)
          clear hq
          refine ⟨rfl, ?_⟩
          intro K hK
          have e0 : a.tmps[57]?.getD undef = .int .i64 (k : Nat) := hf.1
          have e1 : a.tmps[58]?.getD undef = .int .i64 (k : Nat) := hf.2.1
          go_simp
          exact hK _ _ rfl (stepR_no rfl (Below.refl _ _))
         ·intro a wx hbx hq ho hf
          have hbx : Below wr.heap.size wr wx := hbx
          have hbq : Below wr.heap.size wr wx := hq (by kernel_rfl)
          clear hq
          refine ⟨rfl, ?_⟩
          intro K hK
          have e0 : a.tmps[59]?.getD undef = .bool false := hf.1
          go_simp
          exact hK _ _ rfl (stepR_no rfl (Below.refl _ _))
         ·intro a wx hf
          exact wanted_off7 (j := 3) (b := true) (s := 60) rfl rfl rfl (hf.1) (by first | (simp; done) | (simp [undef]; done) | (intro h; cases h))
         ·intro a wx hf
          exact wanted_off7 (j := 3) (b := true) (s := 60) rfl rfl rfl (hf.1) (by first | (simp; done) | (simp [undef]; done) | (intro h; cases h))
         ·intro a wx hf
          exact wanted_off7 (j := 3) (b := true) (s := 60) rfl rfl rfl (hf.2.2.1) (by first | (simp; done) | (simp [undef]; done) | (intro h; cases h))
         ·intro a wx hf
          exact wanted_off7 (j := 3) (b := true) (s := 60) rfl rfl rfl (hf.2.1) (by first | (simp; done) | (simp [undef]; done) | (intro h; cases h))
         ·intro a wx hf
          exact wanted_off7 (j := 3) (b := true) (s := 60) rfl rfl rfl (hf.2.1) (by first | (simp; done) | (simp [undef]; done) | (intro h; cases h))
         ·intro a wx hf
          exact wanted_off7 (j := 3) (b := true) (s := 60) rfl rfl rfl (hf.2.1) (by first | (simp; done) | (simp [undef]; done) | (intro h; cases h))
         ·intro a wx hf
          exact wanted_off7 (j := 3) (b := true) (s := 60) rfl rfl rfl (hf.2.1) (by first | (simp; done) | (simp [undef]; done) | (intro h; cases h))
         ·intro a wx hf
          exact wanted_off7 (j := 10) (b := false) (s := 67) rfl rfl rfl (hf.1) (by first | (simp; done) | (simp [undef]; done) | (intro h; cases h))
         ·intro a wx hf
          exact wanted_off7 (j := 10) (b := false) (s := 67) rfl rfl rfl (hf.1) (by first | (simp; done) | (simp [undef]; done) | (intro h; cases h))
         ·intro a wx hf
          exact wanted_off7 (j := 10) (b := false) (s := 67) rfl rfl rfl (hf.2.2.1) (by first | (simp; done) | (simp [undef]; done) | (intro h; cases h))
         ·intro a wx hf
          exact wanted_off7 (j := 10) (b := false) (s := 67) rfl rfl rfl (hf.2.1) (by first | (simp; done) | (simp [undef]; done) | (intro h; cases h))
         ·intro a wx hf
          exact wanted_off7 (j := 10) (b := false) (s := 67) rfl rfl rfl (hf.2.1) (by first | (simp; done) | (simp [undef]; done) | (intro h; cases h))
         ·intro a wx hf
          exact wanted_off7 (j := 10) (b := false) (s := 67) rfl rfl rfl (hf.2.1) (by first | (simp; done) | (simp [undef]; done) | (intro h; cases h))
         ·intro a wx hf
          exact wanted_off7 (j := 10) (b := false) (s := 67) rfl rfl rfl (hf.1) (by first | (simp; done) | (simp [undef]; done) | (intro h; cases h))
         ·intro a wx hf
          exact wanted_off7 (j := 10) (b := false) (s := 67) rfl rfl rfl (hf.1) (by first | (simp; done) | (simp [undef]; done) | (intro h; cases h))
         ·intro a wx hf
          exact wanted_off7 (j := 10) (b := false) (s := 67) rfl rfl rfl (hf.2.2.1) (by first | (simp; done) | (simp [undef]; done) | (intro h; cases h))
         ·intro a wx hf
          exact wanted_off7 (j := 10) (b := false) (s := 67) rfl rfl rfl (hf.2.1) (by first | (simp; done) | (simp [undef]; done) | (intro h; cases h))
         ·intro a wx hf
          exact wanted_off7 (j := 10) (b := false) (s := 67) rfl rfl rfl (hf.2.1) (by first | (simp; done) | (simp [undef]; done) | (intro h; cases h))
         ·intro a wx hf
          exact wanted_off7 (j := 10) (b := false) (s := 67) rfl rfl rfl (hf.2.2.1) (by first | (simp; done) | (simp [undef]; done) | (intro h; cases h))
         ·intro a wx hf
          exact wanted_off7 (j := 10) (b := false) (s := 67) rfl rfl rfl (hf.2.1) (by first | (simp; done) | (simp [undef]; done) | (intro h; cases h))
         ·intro a wx hf
          exact wanted_off7 (j := 3) (b := true) (s := 60) rfl rfl rfl (hf.2.2.1) (by first | (simp; done) | (simp [undef]; done) | (intro h; cases h))
         ·intro a wx hbx hq ho hf
          have hbx : Below wr.heap.size wr wx := hbx
          have hbq : Below wr.heap.size wr wx := hq (by kernel_rfl)
          clear hq
          refine ⟨rfl, ?_⟩
          intro K hK
          have e0 : a.tmps[60]?.getD undef = .bool false := hf.1
          go_simp
          exact hK _ _ rfl (stepR_no rfl (Below.refl _ _))
        ·rintro f w9 hb9 hfin
         have hb9 : Below wr.heap.size wr w9 := hb9
         have S82 : f 82 = .bool false := hfin.2.2.2.2.2.2.2.2.2.2.2.2.2.2.2.2.2.2.2.2.2.2.2.2.2.1
         clear hfin
         simp only [frameOf, dstsOf, zipF, List.filterMap_cons, List.filterMap_nil, List.contains_cons, List.contains_nil, Nat.reduceBEq, Nat.reduceAdd, Bool.or_false, Bool.or_true, cond_true, cond_false]
         rw [S82]
         clear S82
         have HW9 := Lib.hid (HWK.out.trans (hb9.mono HWK.out.size))
         have HB9 := Lib.hid (HBK.out.trans (hb9.mono HBK.out.size))
         clear hb9
         go_wp2_with fail
         go_roundg (gk - 1)
         case measure => have := HK.out; omega
         case rel => exact ⟨k + 1, by have := HK.out; omega, by go_num, by rw [HA1.out], HW9.out, HB9.out⟩
       ·have hkiI : ((k : Int) == (i : Int)) = false := by rw [beq_eq_false_iff_ne]; omega
        have hkiN : ((k : Int) != (i : Int)) = true := by rw [bne, hkiI]; rfl
        have hkiE : ¬ ((k : Int) = (i : Int)) := by omega
        have hkiF : ¬ (k = i) := hki
        by_cases hodd : z % 2 = 1
        ·rw [hodd] at hmod
         have hmodE : (z : Int) % 2 = 1 := by omega
         have HA1 := Lib.hid (H_AY.out (OO i) k (by rw [HOD.out, decide_eq_true hki, HEZ.out, decide_eq_true hmodE]; rfl))
         clear hdiv hodd
         go_wp2_with fail
         refine wp_region_rel [fun v _ => v = .int .i64 (k : Nat), fun v _ => v = .int .i64 (i : Nat), fun v _ => v = .bool true, fun v _ => v = .bool true, fun v _ => v = .slice (some ⟨bd, od, none⟩) dn dc, fun v _ => v = .int .i64 (k : Nat), fun v _ => v = .pointer (some ⟨bd, od + k, none⟩), fun v _ => v = .int .i64 (z : Nat), fun v _ => v = .int .i64 1, fun v _ => v = .bool true, fun v _ => v = .bool true, fun v _ => v = undef, fun v _ => v = undef, fun v _ => v = undef, fun v _ => v = undef, fun v _ => v = undef, fun v _ => v = undef, fun v _ => v = undef, fun v _ => v = undef, fun v _ => v = undef, fun v _ => v = undef, fun v _ => v = undef, fun v _ => v = undef, fun v _ => v = undef, fun v _ => v = .bool true, fun v _ => v = .bool true]
          [true, true, true, true, true, true, true, true, true, true, true, true, true, true, true, true, true, true, true, true, true, true, true, true, true, true] (fun x => Below wr.heap.size wr x) (fun x y => Below x.heap.size x y) none (by kernel_rfl) ?_ (⟨rfl, rfl, rfl, Nat.le_refl _, fun _ _ => rfl⟩) (fun x y _ h => h) (fun x y hx hs => hx.trans (hs.mono hx.size)) (by kernel_rfl) (by kernel_rfl) ?_ ?_
         ·exact keepsR_n (fun _ _ _ h _ _ => h) (keepsR_n (fun _ _ _ h _ _ => h) (keepsR_n (fun _ _ _ h _ _ => h) (keepsR_n (fun _ _ _ h _ _ => h) (keepsR_n (fun _ _ _ h _ _ => h) (keepsR_n (fun _ _ _ h _ _ => h) (keepsR_n (fun _ _ _ h _ _ => h) (keepsR_n (fun _ _ _ h _ _ => h) (keepsR_n (fun _ _ _ h _ _ => h) (keepsR_n (fun _ _ _ h _ _ => h) (keepsR_n (fun _ _ _ h _ _ => h) (keepsR_n (fun _ _ _ h _ _ => h) (keepsR_n (fun _ _ _ h _ _ => h) (keepsR_n (fun _ _ _ h _ _ => h) (keepsR_n (fun _ _ _ h _ _ => h) (keepsR_n (fun _ _ _ h _ _ => h) (keepsR_n (fun _ _ _ h _ _ => h) (keepsR_n (fun _ _ _ h _ _ => h) (keepsR_n (fun _ _ _ h _ _ => h) (keepsR_n (fun _ _ _ h _ _ => h) (keepsR_n (fun _ _ _ h _ _ => h) (keepsR_n (fun _ _ _ h _ _ => h) (keepsR_n (fun _ _ _ h _ _ => h) (keepsR_n (fun _ _ _ h _ _ => h) (keepsR_n (fun _ _ _ h _ _ => h) (keepsR_n (fun _ _ _ h _ _ => h) (keepsR_nil))))))))))))))))))))))))))
         ·refine .cons (owed7_go ?_) (.cons (owed7_go ?_) (.cons (owed7_go ?_) (.cons (owed7_go ?_) (.cons (owed7_go ?_) (.cons (owed7_go ?_) (.cons (owed7_go ?_) (.cons (owed7_go ?_) (.cons (owed7_go ?_) (.cons (owed7_go ?_) (.cons (owed7_go ?_) (.cons (owed7_off rfl rfl rfl ?_) (.cons (owed7_off rfl rfl rfl ?_) (.cons (owed7_off rfl rfl rfl ?_) (.cons (owed7_off rfl rfl rfl ?_) (.cons (owed7_off rfl rfl rfl ?_) (.cons (owed7_off rfl rfl rfl ?_) (.cons (owed7_off rfl rfl rfl ?_) (.cons (owed7_off rfl rfl rfl ?_) (.cons (owed7_off rfl rfl rfl ?_) (.cons (owed7_off rfl rfl rfl ?_) (.cons (owed7_off rfl rfl rfl ?_) (.cons (owed7_off rfl rfl rfl ?_) (.cons (owed7_off rfl rfl rfl ?_) (.cons (owed7_go ?_) (.cons (owed7_go ?_) (.nil))))))))))))))))))))))))))
          ·intro a wx hbx hq ho hf
           have hbx : Below wr.heap.size wr wx := hbx
           have hbq : Below wr.heap.size wr wx := hq (by kernel_rfl)
           clear hq
           refine ⟨rfl, ?_⟩
           intro K hK
           have e0 : a.tmps[14]?.getD undef = .int .i64 (k : Nat) := ho 14 (by kernel_rfl)
           go_simp
           exact hK _ _ rfl (stepR_no rfl (Below.refl _ _))
          ·intro a wx hbx hq ho hf
           have hbx : Below wr.heap.size wr wx := hbx
           have hbq : Below wr.heap.size wr wx := hq (by kernel_rfl)
           clear hq
           refine ⟨rfl, ?_⟩
           intro K hK
           have e0 : a.tmps[11]?.getD undef = .int .i64 (i : Nat) := ho 11 (by kernel_rfl)
           go_simp
           exact hK _ _ rfl (stepR_no rfl (Below.refl _ _))
          ·intro a wx hbx hq ho hf
           have hbx : Below wr.heap.size wr wx := hbx
           have hbq : Below wr.heap.size wr wx := hq (by kernel_rfl)
           clear hq
           refine ⟨rfl, ?_⟩
           intro K hK
           have e0 : a.tmps[57]?.getD undef = .int .i64 (k : Nat) := hf.1
           have e1 : a.tmps[58]?.getD undef = .int .i64 (i : Nat) := hf.2.1
           go_simp
           exact hK _ _ rfl (stepR_no rfl (Below.refl _ _))
          ·intro a wx hbx hq ho hf
           have hbx : Below wr.heap.size wr wx := hbx
           have hbq : Below wr.heap.size wr wx := hq (by kernel_rfl)
           clear hq
           refine ⟨rfl, ?_⟩
           intro K hK
           have e0 : a.tmps[59]?.getD undef = .bool true := hf.1
           go_simp
           exact hK _ _ rfl (stepR_no rfl (Below.refl _ _))
          ·intro a wx hbx hq ho hf
           have hbx : Below wr.heap.size wr wx := hbx
           have hbq : Below wr.heap.size wr wx := hq (by kernel_rfl)
           clear hq
           refine ⟨wanted_slot (j := 3) (b := true) (s := 60) rfl rfl rfl (hf.1), ?_⟩
           intro K hK
           have e0 : a.tmps[10]?.getD undef = .slice (some ⟨bd, od, none⟩) dn dc := ho 10 (by kernel_rfl)
           go_simp
           exact hK _ _ rfl (stepR_no rfl (Below.refl _ _))
          ·intro a wx hbx hq ho hf
           have hbx : Below wr.heap.size wr wx := hbx
           have hbq : Below wr.heap.size wr wx := hq (by kernel_rfl)
           clear hq
           refine ⟨wanted_slot (j := 3) (b := true) (s := 60) rfl rfl rfl (hf.1), ?_⟩
           intro K hK
           have e0 : a.tmps[14]?.getD undef = .int .i64 (k : Nat) := ho 14 (by kernel_rfl)
           go_simp
           exact hK _ _ rfl (stepR_no rfl (Below.refl _ _))
          ·intro a wx hbx hq ho hf
           have hbx : Below wr.heap.size wr wx := hbx
           have hbq : Below wr.heap.size wr wx := hq (by kernel_rfl)
           clear hq
           refine ⟨wanted_slot (j := 3) (b := true) (s := 60) rfl rfl rfl (hf.2.2.1), ?_⟩
           intro K hK
           have e0 : a.tmps[61]?.getD undef = .slice (some ⟨bd, od, none⟩) dn dc := hf.1
           have e1 : a.tmps[62]?.getD undef = .int .i64 (k : Nat) := hf.2.1
           go_simp
           exact hK _ _ rfl (stepR_no rfl (Below.refl _ _))
          ·intro a wx hbx hq ho hf
           have hbx : Below wr.heap.size wr wx := hbx
           have hbq : Below wr.heap.size wr wx := hq (by kernel_rfl)
           clear hq
           refine ⟨wanted_slot (j := 3) (b := true) (s := 60) rfl rfl rfl (hf.2.1), ?_⟩
           intro K hK
           have e0 : a.tmps[63]?.getD undef = .pointer (some ⟨bd, od + k, none⟩) := hf.1
           have d1 := (hbx.cell (p := ⟨bd, od + k, none⟩) hlbk).trans cu2
           go_simp
           exact hK _ _ rfl (stepR_no rfl (Below.refl _ _))
          ·intro a wx hbx hq ho hf
           have hbx : Below wr.heap.size wr wx := hbx
           have hbq : Below wr.heap.size wr wx := hq (by kernel_rfl)
           clear hq
           refine ⟨wanted_slot (j := 3) (b := true) (s := 60) rfl rfl rfl (hf.2.1), ?_⟩
           intro K hK
           have e0 : a.tmps[64]?.getD undef = .int .i64 (z : Nat) := hf.1
           have gw1 : IntKind.i64.wrap (1) = 1 := by rw [IntKind.wrap_i64]; omega
           have gw2 : (z : Int) % 2 = 1 := by omega
           have gw3 : IntKind.i64.wrap ((z : Int) % 2) = 1 := by rw [gw2]; exact gw1
           have gw4 : Int.tmod ((z : Int)) 2 = 1 := by rw [Int.tmod_eq_emod_of_nonneg (by omega)]; omega
           have gw5 : IntKind.i64.wrap (Int.tmod ((z : Int)) 2) = 1 := by rw [gw4]; exact gw1
           go_simp
           exact hK _ _ rfl (stepR_no rfl (Below.refl _ _))
          ·intro a wx hbx hq ho hf
           have hbx : Below wr.heap.size wr wx := hbx
           have hbq : Below wr.heap.size wr wx := hq (by kernel_rfl)
           clear hq
           refine ⟨wanted_slot (j := 3) (b := true) (s := 60) rfl rfl rfl (hf.2.1), ?_⟩
           intro K hK
           have e0 : a.tmps[65]?.getD undef = .int .i64 1 := hf.1
           go_simp
           exact hK _ _ rfl (stepR_no rfl (Below.refl _ _))
          ·intro a wx hbx hq ho hf
           have hbx : Below wr.heap.size wr wx := hbx
           have hbq : Below wr.heap.size wr wx := hq (by kernel_rfl)
           clear hq
           refine ⟨wanted_slot (j := 3) (b := true) (s := 60) rfl rfl rfl (hf.2.1), ?_⟩
           intro K hK
           have e0 : a.tmps[66]?.getD undef = .bool true := hf.1
           go_simp
           exact hK _ _ rfl (stepR_no rfl (Below.refl _ _))
          ·intro a wx hf
           exact wanted_off7 (j := 10) (b := false) (s := 67) rfl rfl rfl (hf.1) (by first | (simp; done) | (simp [undef]; done) | (intro h; cases h))
          ·intro a wx hf
           exact wanted_off7 (j := 10) (b := false) (s := 67) rfl rfl rfl (hf.1) (by first | (simp; done) | (simp [undef]; done) | (intro h; cases h))
          ·intro a wx hf
           exact wanted_off7 (j := 10) (b := false) (s := 67) rfl rfl rfl (hf.2.2.1) (by first | (simp; done) | (simp [undef]; done) | (intro h; cases h))
          ·intro a wx hf
           exact wanted_off7 (j := 10) (b := false) (s := 67) rfl rfl rfl (hf.2.1) (by first | (simp; done) | (simp [undef]; done) | (intro h; cases h))
          ·intro a wx hf
           exact wanted_off7 (j := 10) (b := false) (s := 67) rfl rfl rfl (hf.2.1) (by first | (simp; done) | (simp [undef]; done) | (intro h; cases h))
          ·intro a wx hf
           exact wanted_off7 (j := 10) (b := false) (s := 67) rfl rfl rfl (hf.2.1) (by first | (simp; done) | (simp [undef]; done) | (intro h; cases h))
          ·intro a wx hf
           exact wanted_off7 (j := 10) (b := false) (s := 67) rfl rfl rfl (hf.1) (by first | (simp; done) | (simp [undef]; done) | (intro h; cases h))
          ·intro a wx hf
           exact wanted_off7 (j := 10) (b := false) (s := 67) rfl rfl rfl (hf.1) (by first | (simp; done) | (simp [undef]; done) | (intro h; cases h))
          ·intro a wx hf
           exact wanted_off7 (j := 10) (b := false) (s := 67) rfl rfl rfl (hf.2.2.1) (by first | (simp; done) | (simp [undef]; done) | (intro h; cases h))
          ·intro a wx hf
           exact wanted_off7 (j := 10) (b := false) (s := 67) rfl rfl rfl (hf.2.1) (by first | (simp; done) | (simp [undef]; done) | (intro h; cases h))
          ·intro a wx hf
           exact wanted_off7 (j := 10) (b := false) (s := 67) rfl rfl rfl (hf.2.1) (by first | (simp; done) | (simp [undef]; done) | (intro h; cases h))
          ·intro a wx hf
           exact wanted_off7 (j := 10) (b := false) (s := 67) rfl rfl rfl (hf.2.2.1) (by first | (simp; done) | (simp [undef]; done) | (intro h; cases h))
          ·intro a wx hf
           exact wanted_off7 (j := 10) (b := false) (s := 67) rfl rfl rfl (hf.2.1) (by first | (simp; done) | (simp [undef]; done) | (intro h; cases h))
          ·intro a wx hbx hq ho hf
           have hbx : Below wr.heap.size wr wx := hbx
           have hbq : Below wr.heap.size wr wx := hq (by kernel_rfl)
           clear hq
           refine ⟨wanted_slot (j := 3) (b := true) (s := 60) rfl rfl rfl (hf.2.2.1), ?_⟩
           intro K hK
           have e0 : a.tmps[67]?.getD undef = .bool true := hf.1
           go_simp
           exact hK _ _ rfl (stepR_no rfl (Below.refl _ _))
          ·intro a wx hbx hq ho hf
           have hbx : Below wr.heap.size wr wx := hbx
           have hbq : Below wr.heap.size wr wx := hq (by kernel_rfl)
           clear hq
           refine ⟨rfl, ?_⟩
           intro K hK
           have e0 : a.tmps[60]?.getD undef = .bool true := hf.1
           have e1 : a.tmps[81]?.getD undef = .bool true := hf.2.1
           go_simp
           exact hK _ _ rfl (stepR_no rfl (Below.refl _ _))
         ·rintro f w9 hb9 hfin
          have hb9 : Below wr.heap.size wr w9 := hb9
          have S82 : f 82 = .bool true := hfin.2.2.2.2.2.2.2.2.2.2.2.2.2.2.2.2.2.2.2.2.2.2.2.2.2.1
          clear hfin
          simp only [frameOf, dstsOf, zipF, List.filterMap_cons, List.filterMap_nil, List.contains_cons, List.contains_nil, Nat.reduceBEq, Nat.reduceAdd, Bool.or_false, Bool.or_true, cond_true, cond_false]
          rw [S82]
          clear S82
          have HW9 := Lib.hid (HWK.out.trans (hb9.mono HWK.out.size))
          have HB9 := Lib.hid (HBK.out.trans (hb9.mono HBK.out.size))
          clear hb9
          go_wp2_with fail
          go_roundg (gk - 1)
          case measure => have := HK.out; omega
          case rel => exact ⟨k + 1, by have := HK.out; omega, by go_num, by rw [HA1.out], HW9.out, HB9.out⟩
        ·have h0 : z % 2 = 0 := by omega
         rw [h0] at hmod
         have hmodE : (z : Int) % 2 = 0 := by omega
         have hz2 : (z : Int) / 2 = ((z / 2 : Nat) : Int) := by omega
         obtain ⟨hh, hhe⟩ : ∃ x, x = z / 2 := ⟨_, rfl⟩
         rw [← hhe] at hdiv hz2
         have HCH := Lib.hid fun (W : World) (hW : Below wr.heap.size wr W) => H_HSL.out W (hh : Int) ((H_L9.out wr HWK.out).below hW (Nat.le_refl _))
         clear hodd h0 hhe
         cases hm : decide ((hh : Int) ∈ LL) with
         | true =>
          have HA1 := Lib.hid (H_AN.out (OO i) k (by rw [HOD.out, HEZ.out, hz2, hm, decide_eq_false (show ¬ ((z : Int) % 2 = 1) by omega)]; simp))
          rw [hm] at HCH
          clear hm
          go_wp2_with fail
          refine wp_region_rel [fun v _ => v = .int .i64 (k : Nat), fun v _ => v = .int .i64 (i : Nat), fun v _ => v = .bool true, fun v _ => v = .bool true, fun v _ => v = .slice (some ⟨bd, od, none⟩) dn dc, fun v _ => v = .int .i64 (k : Nat), fun v _ => v = .pointer (some ⟨bd, od + k, none⟩), fun v _ => v = .int .i64 (z : Nat), fun v _ => v = .int .i64 0, fun v _ => v = .bool false, fun v _ => v = .bool false, fun v _ => v = .slice (some ⟨b, off, none⟩) n tc, fun v _ => v = .int .i64 (p : Nat), fun v _ => v = .pointer (some ⟨b, off + p * 10, none⟩), fun v _ => v = .pointer (some ⟨b, off + p * 10 + 7, none⟩), fun v _ => v = .pointer (some ⟨b, off + p * 10 + 9, none⟩), fun v _ => v = .slice lb n8 le1, fun v _ => v = .slice (some ⟨bd, od, none⟩) dn dc, fun v _ => v = .int .i64 (k : Nat), fun v _ => v = .pointer (some ⟨bd, od + k, none⟩), fun v _ => v = .int .i64 (z : Nat), fun v _ => v = .int .i64 (hh : Nat), fun v _ => v = .bool true, fun v _ => v = .bool false, fun v _ => v = .bool false, fun v _ => v = .bool false]
           [true, true, true, true, true, true, true, true, true, true, true, true, true, true, true, true, true, true, true, true, true, true, true, true, true, true] (fun x => Below wr.heap.size wr x) (fun x y => Below x.heap.size x y) none (by kernel_rfl) ?_ (⟨rfl, rfl, rfl, Nat.le_refl _, fun _ _ => rfl⟩) (fun x y _ h => h) (fun x y hx hs => hx.trans (hs.mono hx.size)) (by kernel_rfl) (by kernel_rfl) ?_ ?_
          ·exact keepsR_n (fun _ _ _ h _ _ => h) (keepsR_n (fun _ _ _ h _ _ => h) (keepsR_n (fun _ _ _ h _ _ => h) (keepsR_n (fun _ _ _ h _ _ => h) (keepsR_n (fun _ _ _ h _ _ => h) (keepsR_n (fun _ _ _ h _ _ => h) (keepsR_n (fun _ _ _ h _ _ => h) (keepsR_n (fun _ _ _ h _ _ => h) (keepsR_n (fun _ _ _ h _ _ => h) (keepsR_n (fun _ _ _ h _ _ => h) (keepsR_n (fun _ _ _ h _ _ => h) (keepsR_n (fun _ _ _ h _ _ => h) (keepsR_n (fun _ _ _ h _ _ => h) (keepsR_n (fun _ _ _ h _ _ => h) (keepsR_n (fun _ _ _ h _ _ => h) (keepsR_n (fun _ _ _ h _ _ => h) (keepsR_n (fun _ _ _ h _ _ => h) (keepsR_n (fun _ _ _ h _ _ => h) (keepsR_n (fun _ _ _ h _ _ => h) (keepsR_n (fun _ _ _ h _ _ => h) (keepsR_n (fun _ _ _ h _ _ => h) (keepsR_n (fun _ _ _ h _ _ => h) (keepsR_n (fun _ _ _ h _ _ => h) (keepsR_n (fun _ _ _ h _ _ => h) (keepsR_n (fun _ _ _ h _ _ => h) (keepsR_n (fun _ _ _ h _ _ => h) (keepsR_nil))))))))))))))))))))))))))
          ·refine .cons (owed7_go ?_) (.cons (owed7_go ?_) (.cons (owed7_go ?_) (.cons (owed7_go ?_) (.cons (owed7_go ?_) (.cons (owed7_go ?_) (.cons (owed7_go ?_) (.cons (owed7_go ?_) (.cons (owed7_go ?_) (.cons (owed7_go ?_) (.cons (owed7_go ?_) (.cons (owed7_go ?_) (.cons (owed7_go ?_) (.cons (owed7_go ?_) (.cons (owed7_go ?_) (.cons (owed7_go ?_) (.cons (owed7_go ?_) (.cons (owed7_go ?_) (.cons (owed7_go ?_) (.cons (owed7_go ?_) (.cons (owed7_go ?_) (.cons (owed7_go ?_) (.cons (owed7_go ?_) (.cons (owed7_go ?_) (.cons (owed7_go ?_) (.cons (owed7_go ?_) (.nil))))))))))))))))))))))))))
           ·intro a wx hbx hq ho hf
            have hbx : Below wr.heap.size wr wx := hbx
            have hbq : Below wr.heap.size wr wx := hq (by kernel_rfl)
            clear hq
            refine ⟨rfl, ?_⟩
            intro K hK
            have e0 : a.tmps[14]?.getD undef = .int .i64 (k : Nat) := ho 14 (by kernel_rfl)
            go_simp
            exact hK _ _ rfl (stepR_no rfl (Below.refl _ _))
           ·intro a wx hbx hq ho hf
            have hbx : Below wr.heap.size wr wx := hbx
            have hbq : Below wr.heap.size wr wx := hq (by kernel_rfl)
            clear hq
            refine ⟨rfl, ?_⟩
            intro K hK
            have e0 : a.tmps[11]?.getD undef = .int .i64 (i : Nat) := ho 11 (by kernel_rfl)
            go_simp
            exact hK _ _ rfl (stepR_no rfl (Below.refl _ _))
           ·intro a wx hbx hq ho hf
            have hbx : Below wr.heap.size wr wx := hbx
            have hbq : Below wr.heap.size wr wx := hq (by kernel_rfl)
            clear hq
            refine ⟨rfl, ?_⟩
            intro K hK
            have e0 : a.tmps[57]?.getD undef = .int .i64 (k : Nat) := hf.1
            have e1 : a.tmps[58]?.getD undef = .int .i64 (i : Nat) := hf.2.1
            go_simp
            exact hK _ _ rfl (stepR_no rfl (Below.refl _ _))
           ·intro a wx hbx hq ho hf
            have hbx : Below wr.heap.size wr wx := hbx
            have hbq : Below wr.heap.size wr wx := hq (by kernel_rfl)
            clear hq
            refine ⟨rfl, ?_⟩
            intro K hK
            have e0 : a.tmps[59]?.getD undef = .bool true := hf.1
            go_simp
            exact hK _ _ rfl (stepR_no rfl (Below.refl _ _))
           ·intro a wx hbx hq ho hf
            have hbx : Below wr.heap.size wr wx := hbx
            have hbq : Below wr.heap.size wr wx := hq (by kernel_rfl)
            clear hq
            refine ⟨wanted_slot (j := 3) (b := true) (s := 60) rfl rfl rfl (hf.1), ?_⟩
            intro K hK
            have e0 : a.tmps[10]?.getD undef = .slice (some ⟨bd, od, none⟩) dn dc := ho 10 (by kernel_rfl)
            go_simp
            exact hK _ _ rfl (stepR_no rfl (Below.refl _ _))
           ·intro a wx hbx hq ho hf
            have hbx : Below wr.heap.size wr wx := hbx
            have hbq : Below wr.heap.size wr wx := hq (by kernel_rfl)
            clear hq
            refine ⟨wanted_slot (j := 3) (b := true) (s := 60) rfl rfl rfl (hf.1), ?_⟩
            intro K hK
            have e0 : a.tmps[14]?.getD undef = .int .i64 (k : Nat) := ho 14 (by kernel_rfl)
            go_simp
            exact hK _ _ rfl (stepR_no rfl (Below.refl _ _))
           ·intro a wx hbx hq ho hf
            have hbx : Below wr.heap.size wr wx := hbx
            have hbq : Below wr.heap.size wr wx := hq (by kernel_rfl)
            clear hq
            refine ⟨wanted_slot (j := 3) (b := true) (s := 60) rfl rfl rfl (hf.2.2.1), ?_⟩
            intro K hK
            have e0 : a.tmps[61]?.getD undef = .slice (some ⟨bd, od, none⟩) dn dc := hf.1
            have e1 : a.tmps[62]?.getD undef = .int .i64 (k : Nat) := hf.2.1
            go_simp
            exact hK _ _ rfl (stepR_no rfl (Below.refl _ _))
           ·intro a wx hbx hq ho hf
            have hbx : Below wr.heap.size wr wx := hbx
            have hbq : Below wr.heap.size wr wx := hq (by kernel_rfl)
            clear hq
            refine ⟨wanted_slot (j := 3) (b := true) (s := 60) rfl rfl rfl (hf.2.1), ?_⟩
            intro K hK
            have e0 : a.tmps[63]?.getD undef = .pointer (some ⟨bd, od + k, none⟩) := hf.1
            have d1 := (hbx.cell (p := ⟨bd, od + k, none⟩) hlbk).trans cu2
            go_simp
            exact hK _ _ rfl (stepR_no rfl (Below.refl _ _))
           ·intro a wx hbx hq ho hf
            have hbx : Below wr.heap.size wr wx := hbx
            have hbq : Below wr.heap.size wr wx := hq (by kernel_rfl)
            clear hq
            refine ⟨wanted_slot (j := 3) (b := true) (s := 60) rfl rfl rfl (hf.2.1), ?_⟩
            intro K hK
            have e0 : a.tmps[64]?.getD undef = .int .i64 (z : Nat) := hf.1
            have gw1 : IntKind.i64.wrap (0) = 0 := by rw [IntKind.wrap_i64]; omega
            have gw2 : (z : Int) % 2 = 0 := by omega
            have gw3 : IntKind.i64.wrap ((z : Int) % 2) = 0 := by rw [gw2]; exact gw1
            have gw4 : Int.tmod ((z : Int)) 2 = 0 := by rw [Int.tmod_eq_emod_of_nonneg (by omega)]; omega
            have gw5 : IntKind.i64.wrap (Int.tmod ((z : Int)) 2) = 0 := by rw [gw4]; exact gw1
            go_simp
            exact hK _ _ rfl (stepR_no rfl (Below.refl _ _))
           ·intro a wx hbx hq ho hf
            have hbx : Below wr.heap.size wr wx := hbx
            have hbq : Below wr.heap.size wr wx := hq (by kernel_rfl)
            clear hq
            refine ⟨wanted_slot (j := 3) (b := true) (s := 60) rfl rfl rfl (hf.2.1), ?_⟩
            intro K hK
            have e0 : a.tmps[65]?.getD undef = .int .i64 0 := hf.1
            go_simp
            exact hK _ _ rfl (stepR_no rfl (Below.refl _ _))
           ·intro a wx hbx hq ho hf
            have hbx : Below wr.heap.size wr wx := hbx
            have hbq : Below wr.heap.size wr wx := hq (by kernel_rfl)
            clear hq
            refine ⟨wanted_slot (j := 3) (b := true) (s := 60) rfl rfl rfl (hf.2.1), ?_⟩
            intro K hK
            have e0 : a.tmps[66]?.getD undef = .bool false := hf.1
            go_simp
            exact hK _ _ rfl (stepR_no rfl (Below.refl _ _))
           ·intro a wx hbx hq ho hf
            have hbx : Below wr.heap.size wr wx := hbx
            have hbq : Below wr.heap.size wr wx := hq (by kernel_rfl)
            clear hq
            refine ⟨wanted_slot (j := 10) (b := false) (s := 67) rfl rfl rfl (hf.1), ?_⟩
            intro K hK
            have e0 : a.tmps[0]?.getD undef = .slice (some ⟨b, off, none⟩) n tc := ho 0 (by kernel_rfl)
            go_simp
            exact hK _ _ rfl (stepR_no rfl (Below.refl _ _))
           ·intro a wx hbx hq ho hf
            have hbx : Below wr.heap.size wr wx := hbx
            have hbq : Below wr.heap.size wr wx := hq (by kernel_rfl)
            clear hq
            refine ⟨wanted_slot (j := 10) (b := false) (s := 67) rfl rfl rfl (hf.1), ?_⟩
            intro K hK
            have e0 : a.tmps[1]?.getD undef = .int .i64 (p : Nat) := ho 1 (by kernel_rfl)
            go_simp
            exact hK _ _ rfl (stepR_no rfl (Below.refl _ _))
           ·intro a wx hbx hq ho hf
            have hbx : Below wr.heap.size wr wx := hbx
            have hbq : Below wr.heap.size wr wx := hq (by kernel_rfl)
            clear hq
            refine ⟨wanted_slot (j := 10) (b := false) (s := 67) rfl rfl rfl (hf.2.2.1), ?_⟩
            intro K hK
            have e0 : a.tmps[68]?.getD undef = .slice (some ⟨b, off, none⟩) n tc := hf.1
            have e1 : a.tmps[69]?.getD undef = .int .i64 (p : Nat) := hf.2.1
            go_simp
            exact hK _ _ rfl (stepR_no rfl (Below.refl _ _))
           ·intro a wx hbx hq ho hf
            have hbx : Below wr.heap.size wr wx := hbx
            have hbq : Below wr.heap.size wr wx := hq (by kernel_rfl)
            clear hq
            refine ⟨wanted_slot (j := 10) (b := false) (s := 67) rfl rfl rfl (hf.2.1), ?_⟩
            intro K hK
            have e0 : a.tmps[70]?.getD undef = .pointer (some ⟨b, off + p * 10, none⟩) := hf.1
            go_simp
            exact hK _ _ rfl (stepR_no rfl (Below.refl _ _))
           ·intro a wx hbx hq ho hf
            have hbx : Below wr.heap.size wr wx := hbx
            have hbq : Below wr.heap.size wr wx := hq (by kernel_rfl)
            clear hq
            refine ⟨wanted_slot (j := 10) (b := false) (s := 67) rfl rfl rfl (hf.2.1), ?_⟩
            intro K hK
            have e0 : a.tmps[71]?.getD undef = .pointer (some ⟨b, off + p * 10 + 7, none⟩) := hf.1
            go_simp
            exact hK _ _ rfl (stepR_no rfl (Below.refl _ _))
           ·intro a wx hbx hq ho hf
            have hbx : Below wr.heap.size wr wx := hbx
            have hbq : Below wr.heap.size wr wx := hq (by kernel_rfl)
            clear hq
            refine ⟨wanted_slot (j := 10) (b := false) (s := 67) rfl rfl rfl (hf.2.1), ?_⟩
            intro K hK
            have e0 : a.tmps[72]?.getD undef = .pointer (some ⟨b, off + p * 10 + 9, none⟩) := hf.1
            have d1 := (hbx.cell (p := ⟨b, off + p * 10 + 9, none⟩) hl9).trans c9
            go_simp
            exact hK _ _ rfl (stepR_no rfl (Below.refl _ _))
           ·intro a wx hbx hq ho hf
            have hbx : Below wr.heap.size wr wx := hbx
            have hbq : Below wr.heap.size wr wx := hq (by kernel_rfl)
            clear hq
            refine ⟨wanted_slot (j := 10) (b := false) (s := 67) rfl rfl rfl (hf.1), ?_⟩
            intro K hK
            have e0 : a.tmps[10]?.getD undef = .slice (some ⟨bd, od, none⟩) dn dc := ho 10 (by kernel_rfl)
            go_simp
            exact hK _ _ rfl (stepR_no rfl (Below.refl _ _))
           ·intro a wx hbx hq ho hf
            have hbx : Below wr.heap.size wr wx := hbx
            have hbq : Below wr.heap.size wr wx := hq (by kernel_rfl)
            clear hq
            refine ⟨wanted_slot (j := 10) (b := false) (s := 67) rfl rfl rfl (hf.1), ?_⟩
            intro K hK
            have e0 : a.tmps[14]?.getD undef = .int .i64 (k : Nat) := ho 14 (by kernel_rfl)
            go_simp
            exact hK _ _ rfl (stepR_no rfl (Below.refl _ _))
           ·intro a wx hbx hq ho hf
            have hbx : Below wr.heap.size wr wx := hbx
            have hbq : Below wr.heap.size wr wx := hq (by kernel_rfl)
            clear hq
            refine ⟨wanted_slot (j := 10) (b := false) (s := 67) rfl rfl rfl (hf.2.2.1), ?_⟩
            intro K hK
            have e0 : a.tmps[74]?.getD undef = .slice (some ⟨bd, od, none⟩) dn dc := hf.1
            have e1 : a.tmps[75]?.getD undef = .int .i64 (k : Nat) := hf.2.1
            go_simp
            exact hK _ _ rfl (stepR_no rfl (Below.refl _ _))
           ·intro a wx hbx hq ho hf
            have hbx : Below wr.heap.size wr wx := hbx
            have hbq : Below wr.heap.size wr wx := hq (by kernel_rfl)
            clear hq
            refine ⟨wanted_slot (j := 10) (b := false) (s := 67) rfl rfl rfl (hf.2.1), ?_⟩
            intro K hK
            have e0 : a.tmps[76]?.getD undef = .pointer (some ⟨bd, od + k, none⟩) := hf.1
            have d1 := (hbx.cell (p := ⟨bd, od + k, none⟩) hlbk).trans cu2
            go_simp
            exact hK _ _ rfl (stepR_no rfl (Below.refl _ _))
           ·intro a wx hbx hq ho hf
            have hbx : Below wr.heap.size wr wx := hbx
            have hbq : Below wr.heap.size wr wx := hq (by kernel_rfl)
            clear hq
            refine ⟨wanted_slot (j := 10) (b := false) (s := 67) rfl rfl rfl (hf.2.1), ?_⟩
            intro K hK
            have e0 : a.tmps[77]?.getD undef = .int .i64 (z : Nat) := hf.1
            have gw1 : IntKind.i64.wrap ((hh : Int)) = (hh : Int) := by rw [IntKind.wrap_i64]; omega
            have gw2 : (z : Int) / 2 = (hh : Int) := by omega
            have gw3 : IntKind.i64.wrap ((z : Int) / 2) = (hh : Int) := by rw [gw2]; exact gw1
            have gw4 : Int.tdiv ((z : Int)) 2 = (hh : Int) := by rw [Int.tdiv_eq_ediv_of_nonneg (by omega)]; omega
            have gw5 : IntKind.i64.wrap (Int.tdiv ((z : Int)) 2) = (hh : Int) := by rw [gw4]; exact gw1
            go_simp
            exact hK _ _ rfl (stepR_no rfl (Below.refl _ _))
           ·intro a wx hbx hq ho hf
            have hbx : Below wr.heap.size wr wx := hbx
            have hbq : Below wr.heap.size wr wx := hq (by kernel_rfl)
            clear hq
            refine ⟨wanted_slot (j := 10) (b := false) (s := 67) rfl rfl rfl (hf.2.2.1), ?_⟩
            intro K hK
            have e0 : a.tmps[73]?.getD undef = .slice lb n8 le1 := hf.1
            have e1 : a.tmps[78]?.getD undef = .int .i64 (hh : Nat) := hf.2.1
            go_simp
            refine (HCH.out wx hbx).mono ?_
            rintro e w2 ⟨rfl, rfl⟩
            exact hK _ _ rfl (stepR_no rfl (Below.refl _ _))
           ·intro a wx hbx hq ho hf
            have hbx : Below wr.heap.size wr wx := hbx
            have hbq : Below wr.heap.size wr wx := hq (by kernel_rfl)
            clear hq
            refine ⟨wanted_slot (j := 10) (b := false) (s := 67) rfl rfl rfl (hf.2.1), ?_⟩
            intro K hK
            have e0 : a.tmps[79]?.getD undef = .bool true := hf.1
            go_simp
            exact hK _ _ rfl (stepR_no rfl (Below.refl _ _))
           ·intro a wx hbx hq ho hf
            have hbx : Below wr.heap.size wr wx := hbx
            have hbq : Below wr.heap.size wr wx := hq (by kernel_rfl)
            clear hq
            refine ⟨wanted_slot (j := 3) (b := true) (s := 60) rfl rfl rfl (hf.2.2.1), ?_⟩
            intro K hK
            have e0 : a.tmps[67]?.getD undef = .bool false := hf.1
            have e1 : a.tmps[80]?.getD undef = .bool false := hf.2.1
            go_simp
            exact hK _ _ rfl (stepR_no rfl (Below.refl _ _))
           ·intro a wx hbx hq ho hf
            have hbx : Below wr.heap.size wr wx := hbx
            have hbq : Below wr.heap.size wr wx := hq (by kernel_rfl)
            clear hq
            refine ⟨rfl, ?_⟩
            intro K hK
            have e0 : a.tmps[60]?.getD undef = .bool true := hf.1
            have e1 : a.tmps[81]?.getD undef = .bool false := hf.2.1
            go_simp
            exact hK _ _ rfl (stepR_no rfl (Below.refl _ _))
          ·rintro f w9 hb9 hfin
           have hb9 : Below wr.heap.size wr w9 := hb9
           have S82 : f 82 = .bool false := hfin.2.2.2.2.2.2.2.2.2.2.2.2.2.2.2.2.2.2.2.2.2.2.2.2.2.1
           clear hfin
           simp only [frameOf, dstsOf, zipF, List.filterMap_cons, List.filterMap_nil, List.contains_cons, List.contains_nil, Nat.reduceBEq, Nat.reduceAdd, Bool.or_false, Bool.or_true, cond_true, cond_false]
           rw [S82]
           clear S82
           have HW9 := Lib.hid (HWK.out.trans (hb9.mono HWK.out.size))
           have HB9 := Lib.hid (HBK.out.trans (hb9.mono HBK.out.size))
           clear hb9
           go_wp2_with fail
           go_roundg (gk - 1)
           case measure => have := HK.out; omega
           case rel => exact ⟨k + 1, by have := HK.out; omega, by go_num, by rw [HA1.out], HW9.out, HB9.out⟩
         | false =>
          have HA1 := Lib.hid (H_AY.out (OO i) k (by rw [HOD.out, HEZ.out, hz2, hm, decide_eq_true hki]; simp))
          rw [hm] at HCH
          clear hm
          go_wp2_with fail
          refine wp_region_rel [fun v _ => v = .int .i64 (k : Nat), fun v _ => v = .int .i64 (i : Nat), fun v _ => v = .bool true, fun v _ => v = .bool true, fun v _ => v = .slice (some ⟨bd, od, none⟩) dn dc, fun v _ => v = .int .i64 (k : Nat), fun v _ => v = .pointer (some ⟨bd, od + k, none⟩), fun v _ => v = .int .i64 (z : Nat), fun v _ => v = .int .i64 0, fun v _ => v = .bool false, fun v _ => v = .bool false, fun v _ => v = .slice (some ⟨b, off, none⟩) n tc, fun v _ => v = .int .i64 (p : Nat), fun v _ => v = .pointer (some ⟨b, off + p * 10, none⟩), fun v _ => v = .pointer (some ⟨b, off + p * 10 + 7, none⟩), fun v _ => v = .pointer (some ⟨b, off + p * 10 + 9, none⟩), fun v _ => v = .slice lb n8 le1, fun v _ => v = .slice (some ⟨bd, od, none⟩) dn dc, fun v _ => v = .int .i64 (k : Nat), fun v _ => v = .pointer (some ⟨bd, od + k, none⟩), fun v _ => v = .int .i64 (z : Nat), fun v _ => v = .int .i64 (hh : Nat), fun v _ => v = .bool false, fun v _ => v = .bool true, fun v _ => v = .bool true, fun v _ => v = .bool true]
           [true, true, true, true, true, true, true, true, true, true, true, true, true, true, true, true, true, true, true, true, true, true, true, true, true, true] (fun x => Below wr.heap.size wr x) (fun x y => Below x.heap.size x y) none (by kernel_rfl) ?_ (⟨rfl, rfl, rfl, Nat.le_refl _, fun _ _ => rfl⟩) (fun x y _ h => h) (fun x y hx hs => hx.trans (hs.mono hx.size)) (by kernel_rfl) (by kernel_rfl) ?_ ?_
          ·exact keepsR_n (fun _ _ _ h _ _ => h) (keepsR_n (fun _ _ _ h _ _ => h) (keepsR_n (fun _ _ _ h _ _ => h) (keepsR_n (fun _ _ _ h _ _ => h) (keepsR_n (fun _ _ _ h _ _ => h) (keepsR_n (fun _ _ _ h _ _ => h) (keepsR_n (fun _ _ _ h _ _ => h) (keepsR_n (fun _ _ _ h _ _ => h) (keepsR_n (fun _ _ _ h _ _ => h) (keepsR_n (fun _ _ _ h _ _ => h) (keepsR_n (fun _ _ _ h _ _ => h) (keepsR_n (fun _ _ _ h _ _ => h) (keepsR_n (fun _ _ _ h _ _ => h) (keepsR_n (fun _ _ _ h _ _ => h) (keepsR_n (fun _ _ _ h _ _ => h) (keepsR_n (fun _ _ _ h _ _ => h) (keepsR_n (fun _ _ _ h _ _ => h) (keepsR_n (fun _ _ _ h _ _ => h) (keepsR_n (fun _ _ _ h _ _ => h) (keepsR_n (fun _ _ _ h _ _ => h) (keepsR_n (fun _ _ _ h _ _ => h) (keepsR_n (fun _ _ _ h _ _ => h) (keepsR_n (fun _ _ _ h _ _ => h) (keepsR_n (fun _ _ _ h _ _ => h) (keepsR_n (fun _ _ _ h _ _ => h) (keepsR_n (fun _ _ _ h _ _ => h) (keepsR_nil))))))))))))))))))))))))))
          ·refine .cons (owed7_go ?_) (.cons (owed7_go ?_) (.cons (owed7_go ?_) (.cons (owed7_go ?_) (.cons (owed7_go ?_) (.cons (owed7_go ?_) (.cons (owed7_go ?_) (.cons (owed7_go ?_) (.cons (owed7_go ?_) (.cons (owed7_go ?_) (.cons (owed7_go ?_) (.cons (owed7_go ?_) (.cons (owed7_go ?_) (.cons (owed7_go ?_) (.cons (owed7_go ?_) (.cons (owed7_go ?_) (.cons (owed7_go ?_) (.cons (owed7_go ?_) (.cons (owed7_go ?_) (.cons (owed7_go ?_) (.cons (owed7_go ?_) (.cons (owed7_go ?_) (.cons (owed7_go ?_) (.cons (owed7_go ?_) (.cons (owed7_go ?_) (.cons (owed7_go ?_) (.nil))))))))))))))))))))))))))
           ·intro a wx hbx hq ho hf
            have hbx : Below wr.heap.size wr wx := hbx
            have hbq : Below wr.heap.size wr wx := hq (by kernel_rfl)
            clear hq
            refine ⟨rfl, ?_⟩
            intro K hK
            have e0 : a.tmps[14]?.getD undef = .int .i64 (k : Nat) := ho 14 (by kernel_rfl)
            go_simp
            exact hK _ _ rfl (stepR_no rfl (Below.refl _ _))
           ·intro a wx hbx hq ho hf
            have hbx : Below wr.heap.size wr wx := hbx
            have hbq : Below wr.heap.size wr wx := hq (by kernel_rfl)
            clear hq
            refine ⟨rfl, ?_⟩
            intro K hK
            have e0 : a.tmps[11]?.getD undef = .int .i64 (i : Nat) := ho 11 (by kernel_rfl)
            go_simp
            exact hK _ _ rfl (stepR_no rfl (Below.refl _ _))
           ·intro a wx hbx hq ho hf
            have hbx : Below wr.heap.size wr wx := hbx
            have hbq : Below wr.heap.size wr wx := hq (by kernel_rfl)
            clear hq
            refine ⟨rfl, ?_⟩
            intro K hK
            have e0 : a.tmps[57]?.getD undef = .int .i64 (k : Nat) := hf.1
            have e1 : a.tmps[58]?.getD undef = .int .i64 (i : Nat) := hf.2.1
            go_simp
            exact hK _ _ rfl (stepR_no rfl (Below.refl _ _))
           ·intro a wx hbx hq ho hf
            have hbx : Below wr.heap.size wr wx := hbx
            have hbq : Below wr.heap.size wr wx := hq (by kernel_rfl)
            clear hq
            refine ⟨rfl, ?_⟩
            intro K hK
            have e0 : a.tmps[59]?.getD undef = .bool true := hf.1
            go_simp
            exact hK _ _ rfl (stepR_no rfl (Below.refl _ _))
           ·intro a wx hbx hq ho hf
            have hbx : Below wr.heap.size wr wx := hbx
            have hbq : Below wr.heap.size wr wx := hq (by kernel_rfl)
            clear hq
            refine ⟨wanted_slot (j := 3) (b := true) (s := 60) rfl rfl rfl (hf.1), ?_⟩
            intro K hK
            have e0 : a.tmps[10]?.getD undef = .slice (some ⟨bd, od, none⟩) dn dc := ho 10 (by kernel_rfl)
            go_simp
            exact hK _ _ rfl (stepR_no rfl (Below.refl _ _))
           ·intro a wx hbx hq ho hf
            have hbx : Below wr.heap.size wr wx := hbx
            have hbq : Below wr.heap.size wr wx := hq (by kernel_rfl)
            clear hq
            refine ⟨wanted_slot (j := 3) (b := true) (s := 60) rfl rfl rfl (hf.1), ?_⟩
            intro K hK
            have e0 : a.tmps[14]?.getD undef = .int .i64 (k : Nat) := ho 14 (by kernel_rfl)
            go_simp
            exact hK _ _ rfl (stepR_no rfl (Below.refl _ _))
           ·intro a wx hbx hq ho hf
            have hbx : Below wr.heap.size wr wx := hbx
            have hbq : Below wr.heap.size wr wx := hq (by kernel_rfl)
            clear hq
            refine ⟨wanted_slot (j := 3) (b := true) (s := 60) rfl rfl rfl (hf.2.2.1), ?_⟩
            intro K hK
            have e0 : a.tmps[61]?.getD undef = .slice (some ⟨bd, od, none⟩) dn dc := hf.1
            have e1 : a.tmps[62]?.getD undef = .int .i64 (k : Nat) := hf.2.1
            go_simp
            exact hK _ _ rfl (stepR_no rfl (Below.refl _ _))
           ·intro a wx hbx hq ho hf
            have hbx : Below wr.heap.size wr wx := hbx
            have hbq : Below wr.heap.size wr wx := hq (by kernel_rfl)
            clear hq
            refine ⟨wanted_slot (j := 3) (b := true) (s := 60) rfl rfl rfl (hf.2.1), ?_⟩
            intro K hK
            have e0 : a.tmps[63]?.getD undef = .pointer (some ⟨bd, od + k, none⟩) := hf.1
            have d1 := (hbx.cell (p := ⟨bd, od + k, none⟩) hlbk).trans cu2
            go_simp
            exact hK _ _ rfl (stepR_no rfl (Below.refl _ _))
           ·intro a wx hbx hq ho hf
            have hbx : Below wr.heap.size wr wx := hbx
            have hbq : Below wr.heap.size wr wx := hq (by kernel_rfl)
            clear hq
            refine ⟨wanted_slot (j := 3) (b := true) (s := 60) rfl rfl rfl (hf.2.1), ?_⟩
            intro K hK
            have e0 : a.tmps[64]?.getD undef = .int .i64 (z : Nat) := hf.1
            have gw1 : IntKind.i64.wrap (0) = 0 := by rw [IntKind.wrap_i64]; omega
            have gw2 : (z : Int) % 2 = 0 := by omega
            have gw3 : IntKind.i64.wrap ((z : Int) % 2) = 0 := by rw [gw2]; exact gw1
            have gw4 : Int.tmod ((z : Int)) 2 = 0 := by rw [Int.tmod_eq_emod_of_nonneg (by omega)]; omega
            have gw5 : IntKind.i64.wrap (Int.tmod ((z : Int)) 2) = 0 := by rw [gw4]; exact gw1
            go_simp
            exact hK _ _ rfl (stepR_no rfl (Below.refl _ _))
           ·intro a wx hbx hq ho hf
            have hbx : Below wr.heap.size wr wx := hbx
            have hbq : Below wr.heap.size wr wx := hq (by kernel_rfl)
            clear hq
            refine ⟨wanted_slot (j := 3) (b := true) (s := 60) rfl rfl rfl (hf.2.1), ?_⟩
            intro K hK
            have e0 : a.tmps[65]?.getD undef = .int .i64 0 := hf.1
            go_simp
            exact hK _ _ rfl (stepR_no rfl (Below.refl _ _))
           ·intro a wx hbx hq ho hf
            have hbx : Below wr.heap.size wr wx := hbx
            have hbq : Below wr.heap.size wr wx := hq (by kernel_rfl)
            clear hq
            refine ⟨wanted_slot (j := 3) (b := true) (s := 60) rfl rfl rfl (hf.2.1), ?_⟩
            intro K hK
            have e0 : a.tmps[66]?.getD undef = .bool false := hf.1
            go_simp
            exact hK _ _ rfl (stepR_no rfl (Below.refl _ _))
           ·intro a wx hbx hq ho hf
            have hbx : Below wr.heap.size wr wx := hbx
            have hbq : Below wr.heap.size wr wx := hq (by kernel_rfl)
            clear hq
            refine ⟨wanted_slot (j := 10) (b := false) (s := 67) rfl rfl rfl (hf.1), ?_⟩
            intro K hK
            have e0 : a.tmps[0]?.getD undef = .slice (some ⟨b, off, none⟩) n tc := ho 0 (by kernel_rfl)
            go_simp
            exact hK _ _ rfl (stepR_no rfl (Below.refl _ _))
           ·intro a wx hbx hq ho hf
            have hbx : Below wr.heap.size wr wx := hbx
            have hbq : Below wr.heap.size wr wx := hq (by kernel_rfl)
            clear hq
            refine ⟨wanted_slot (j := 10) (b := false) (s := 67) rfl rfl rfl (hf.1), ?_⟩
            intro K hK
            have e0 : a.tmps[1]?.getD undef = .int .i64 (p : Nat) := ho 1 (by kernel_rfl)
            go_simp
            exact hK _ _ rfl (stepR_no rfl (Below.refl _ _))
           ·intro a wx hbx hq ho hf
            have hbx : Below wr.heap.size wr wx := hbx
            have hbq : Below wr.heap.size wr wx := hq (by kernel_rfl)
            clear hq
            refine ⟨wanted_slot (j := 10) (b := false) (s := 67) rfl rfl rfl (hf.2.2.1), ?_⟩
            intro K hK
            have e0 : a.tmps[68]?.getD undef = .slice (some ⟨b, off, none⟩) n tc := hf.1
            have e1 : a.tmps[69]?.getD undef = .int .i64 (p : Nat) := hf.2.1
            go_simp
            exact hK _ _ rfl (stepR_no rfl (Below.refl _ _))
           ·intro a wx hbx hq ho hf
            have hbx : Below wr.heap.size wr wx := hbx
            have hbq : Below wr.heap.size wr wx := hq (by kernel_rfl)
            clear hq
            refine ⟨wanted_slot (j := 10) (b := false) (s := 67) rfl rfl rfl (hf.2.1), ?_⟩
            intro K hK
            have e0 : a.tmps[70]?.getD undef = .pointer (some ⟨b, off + p * 10, none⟩) := hf.1
            go_simp
            exact hK _ _ rfl (stepR_no rfl (Below.refl _ _))
           ·intro a wx hbx hq ho hf
            have hbx : Below wr.heap.size wr wx := hbx
            have hbq : Below wr.heap.size wr wx := hq (by kernel_rfl)
            clear hq
            refine ⟨wanted_slot (j := 10) (b := false) (s := 67) rfl rfl rfl (hf.2.1), ?_⟩
            intro K hK
            have e0 : a.tmps[71]?.getD undef = .pointer (some ⟨b, off + p * 10 + 7, none⟩) := hf.1
            go_simp
            exact hK _ _ rfl (stepR_no rfl (Below.refl _ _))
           ·intro a wx hbx hq ho hf
            have hbx : Below wr.heap.size wr wx := hbx
            have hbq : Below wr.heap.size wr wx := hq (by kernel_rfl)
            clear hq
            refine ⟨wanted_slot (j := 10) (b := false) (s := 67) rfl rfl rfl (hf.2.1), ?_⟩
            intro K hK
            have e0 : a.tmps[72]?.getD undef = .pointer (some ⟨b, off + p * 10 + 9, none⟩) := hf.1
            have d1 := (hbx.cell (p := ⟨b, off + p * 10 + 9, none⟩) hl9).trans c9
            go_simp
            exact hK _ _ rfl (stepR_no rfl (Below.refl _ _))
           ·intro a wx hbx hq ho hf
            have hbx : Below wr.heap.size wr wx := hbx
            have hbq : Below wr.heap.size wr wx := hq (by kernel_rfl)
            clear hq
            refine ⟨wanted_slot (j := 10) (b := false) (s := 67) rfl rfl rfl (hf.1), ?_⟩
            intro K hK
            have e0 : a.tmps[10]?.getD undef = .slice (some ⟨bd, od, none⟩) dn dc := ho 10 (by kernel_rfl)
            go_simp
            exact hK _ _ rfl (stepR_no rfl (Below.refl _ _))
           ·intro a wx hbx hq ho hf
            have hbx : Below wr.heap.size wr wx := hbx
            have hbq : Below wr.heap.size wr wx := hq (by kernel_rfl)
            clear hq
            refine ⟨wanted_slot (j := 10) (b := false) (s := 67) rfl rfl rfl (hf.1), ?_⟩
            intro K hK
            have e0 : a.tmps[14]?.getD undef = .int .i64 (k : Nat) := ho 14 (by kernel_rfl)
            go_simp
            exact hK _ _ rfl (stepR_no rfl (Below.refl _ _))
           ·intro a wx hbx hq ho hf
            have hbx : Below wr.heap.size wr wx := hbx
            have hbq : Below wr.heap.size wr wx := hq (by kernel_rfl)
            clear hq
            refine ⟨wanted_slot (j := 10) (b := false) (s := 67) rfl rfl rfl (hf.2.2.1), ?_⟩
            intro K hK
            have e0 : a.tmps[74]?.getD undef = .slice (some ⟨bd, od, none⟩) dn dc := hf.1
            have e1 : a.tmps[75]?.getD undef = .int .i64 (k : Nat) := hf.2.1
            go_simp
            exact hK _ _ rfl (stepR_no rfl (Below.refl _ _))
           ·intro a wx hbx hq ho hf
            have hbx : Below wr.heap.size wr wx := hbx
            have hbq : Below wr.heap.size wr wx := hq (by kernel_rfl)
            clear hq
            refine ⟨wanted_slot (j := 10) (b := false) (s := 67) rfl rfl rfl (hf.2.1), ?_⟩
            intro K hK
            have e0 : a.tmps[76]?.getD undef = .pointer (some ⟨bd, od + k, none⟩) := hf.1
            have d1 := (hbx.cell (p := ⟨bd, od + k, none⟩) hlbk).trans cu2
            go_simp
            exact hK _ _ rfl (stepR_no rfl (Below.refl _ _))
           ·intro a wx hbx hq ho hf
            have hbx : Below wr.heap.size wr wx := hbx
            have hbq : Below wr.heap.size wr wx := hq (by kernel_rfl)
            clear hq
            refine ⟨wanted_slot (j := 10) (b := false) (s := 67) rfl rfl rfl (hf.2.1), ?_⟩
            intro K hK
            have e0 : a.tmps[77]?.getD undef = .int .i64 (z : Nat) := hf.1
            have gw1 : IntKind.i64.wrap ((hh : Int)) = (hh : Int) := by rw [IntKind.wrap_i64]; omega
            have gw2 : (z : Int) / 2 = (hh : Int) := by omega
            have gw3 : IntKind.i64.wrap ((z : Int) / 2) = (hh : Int) := by rw [gw2]; exact gw1
            have gw4 : Int.tdiv ((z : Int)) 2 = (hh : Int) := by rw [Int.tdiv_eq_ediv_of_nonneg (by omega)]; omega
            have gw5 : IntKind.i64.wrap (Int.tdiv ((z : Int)) 2) = (hh : Int) := by rw [gw4]; exact gw1
            go_simp
            exact hK _ _ rfl (stepR_no rfl (Below.refl _ _))
           ·intro a wx hbx hq ho hf
            have hbx : Below wr.heap.size wr wx := hbx
            have hbq : Below wr.heap.size wr wx := hq (by kernel_rfl)
            clear hq
            refine ⟨wanted_slot (j := 10) (b := false) (s := 67) rfl rfl rfl (hf.2.2.1), ?_⟩
            intro K hK
            have e0 : a.tmps[73]?.getD undef = .slice lb n8 le1 := hf.1
            have e1 : a.tmps[78]?.getD undef = .int .i64 (hh : Nat) := hf.2.1
            go_simp
            refine (HCH.out wx hbx).mono ?_
            rintro e w2 ⟨rfl, rfl⟩
            exact hK _ _ rfl (stepR_no rfl (Below.refl _ _))
           ·intro a wx hbx hq ho hf
            have hbx : Below wr.heap.size wr wx := hbx
            have hbq : Below wr.heap.size wr wx := hq (by kernel_rfl)
            clear hq
            refine ⟨wanted_slot (j := 10) (b := false) (s := 67) rfl rfl rfl (hf.2.1), ?_⟩
            intro K hK
            have e0 : a.tmps[79]?.getD undef = .bool false := hf.1
            go_simp
            exact hK _ _ rfl (stepR_no rfl (Below.refl _ _))
           ·intro a wx hbx hq ho hf
            have hbx : Below wr.heap.size wr wx := hbx
            have hbq : Below wr.heap.size wr wx := hq (by kernel_rfl)
            clear hq
            refine ⟨wanted_slot (j := 3) (b := true) (s := 60) rfl rfl rfl (hf.2.2.1), ?_⟩
            intro K hK
            have e0 : a.tmps[67]?.getD undef = .bool false := hf.1
            have e1 : a.tmps[80]?.getD undef = .bool true := hf.2.1
            go_simp
            exact hK _ _ rfl (stepR_no rfl (Below.refl _ _))
           ·intro a wx hbx hq ho hf
            have hbx : Below wr.heap.size wr wx := hbx
            have hbq : Below wr.heap.size wr wx := hq (by kernel_rfl)
            clear hq
            refine ⟨rfl, ?_⟩
            intro K hK
            have e0 : a.tmps[60]?.getD undef = .bool true := hf.1
            have e1 : a.tmps[81]?.getD undef = .bool true := hf.2.1
            go_simp
            exact hK _ _ rfl (stepR_no rfl (Below.refl _ _))
          ·rintro f w9 hb9 hfin
           have hb9 : Below wr.heap.size wr w9 := hb9
           have S82 : f 82 = .bool true := hfin.2.2.2.2.2.2.2.2.2.2.2.2.2.2.2.2.2.2.2.2.2.2.2.2.2.1
           clear hfin
           simp only [frameOf, dstsOf, zipF, List.filterMap_cons, List.filterMap_nil, List.contains_cons, List.contains_nil, Nat.reduceBEq, Nat.reduceAdd, Bool.or_false, Bool.or_true, cond_true, cond_false]
           rw [S82]
           clear S82
           have HW9 := Lib.hid (HWK.out.trans (hb9.mono HWK.out.size))
           have HB9 := Lib.hid (HBK.out.trans (hb9.mono HBK.out.size))
           clear hb9
           go_wp2_with fail
           go_roundg (gk - 1)
           case measure => have := HK.out; omega
           case rel => exact ⟨k + 1, by have := HK.out; omega, by go_num, by rw [HA1.out], HW9.out, HB9.out⟩
      ·obtain rfl : k = dn := by have := HK.out; omega
       have hlt' : decide (k < k) = false := decide_eq_false hltk
       clear hltk
       obtain ⟨w8, rfl⟩ : ∃ w8, w8 = wr := ⟨_, rfl⟩
       obtain ⟨AO, hAO⟩ : ∃ a, a = A (OO i) k := ⟨_, rfl⟩
       have HAO := Lib.hid hAO
       rw [← hAO]
       clear hAO
       go_wp2_with fail
       obtain ⟨g8, rfl⟩ : ∃ g8, g8 = gk := ⟨_, rfl⟩
       go_loopg [13, 15] n8 (fun q av iv W => ∃ j : Nat, j + q = n8 ∧ iv = .int .i64 (j : Nat) ∧ av = .bool (AO && A (PO i) j) ∧ Below w.heap.size w W ∧ Below w4.heap.size w4 W)
       case atStart => exact ⟨0, by omega, rfl, by rw [H_AZ.out, Bool.and_true], HWK.out, HBK.out⟩
       case round =>
        obtain ⟨j, hj, rfl, rfl, hb, hb4⟩ := hrel
        have HJJ := Lib.hid hj
        have HWJ := Lib.hid hb
        have HBJ := Lib.hid hb4
        have c9 := H_C9.out wr HWJ.out
        clear hj hb hb4
        by_cases hltj : j < n8
        ·have hlt' : decide (j < n8) = true := decide_eq_true hltj
         have hltJI : (j : Int) < (n8 : Int) := by omega
         obtain ⟨bl, ol, rfl, hlbl, cl⟩ := H_LG.out wr HWJ.out j hltj
         obtain ⟨m, em, hm⟩ := H_LUr.out j hltj
         rw [em] at cl
         have HLO := Lib.hid (H_LO.out i j)
         have HEM := Lib.hid em
         have CU := Lib.hid (H_UN.out (m : Int) wr)
         clear em
         cases hu : undZ (2 * (m : Int)) (c : Int) with
         | false =>
          rw [hu] at CU
          have HA2 := Lib.hid (H_AN.out (PO i) j (by rw [HLO.out, HEM.out, hu]; rfl))
          clear hu
          go_wp2_with fail
          refine CU.out.mono ?_
          rintro e w9 ⟨rfl, hb9⟩
          have HW9 := Lib.hid (HWJ.out.trans (hb9.mono HWJ.out.size))
          have HB9 := Lib.hid (HBJ.out.trans (hb9.mono HBJ.out.size))
          clear hb9
          go_wp2_with fail
          go_roundg (gk - 1)
          case measure => have := HJJ.out; omega
          case rel => exact ⟨j + 1, by have := HJJ.out; omega, by go_num, by rw [HA2.out], HW9.out, HB9.out⟩
         | true =>
          rw [hu] at CU
          go_wp2_with fail
          refine CU.out.mono ?_
          rintro e w9 ⟨rfl, hb9⟩
          have HW9 := Lib.hid (HWJ.out.trans (hb9.mono HWJ.out.size))
          have HB9 := Lib.hid (HBJ.out.trans (hb9.mono HBJ.out.size))
          have hD9 := HD4.out.below HB9.out (Nat.le_refl _)
          obtain ⟨bd3, od3, e3', hlb3, cu3⟩ := H_DG.out w9 _ _ hD9 i hlti
          obtain ⟨rfl, rfl⟩ : bd = bd3 ∧ od = od3 := by
           simp only [Option.some.injEq, Addr.mk.injEq, and_true] at e3'
           exact e3'
          rw [HEY.out] at cu3
          have HCH := Lib.hid (H_HSD.out w9 _ _ (2 * (m : Int)) hD9)
          clear hb9 hD9 e3' hlb3
          by_cases hmy : 2 * m = y
          ·have HA2 := Lib.hid (H_AY.out (PO i) j (by rw [HLO.out, HEM.out, HEY.out, hu, decide_eq_true (show 2 * (m : Int) = (y : Int) by omega)]; rfl))
           have hq1 : (2 * (m : Int) == (y : Int)) = true := by rw [beq_iff_eq]; omega
           have hq2 : 2 * (m : Int) = (y : Int) := by omega
           clear hu hmy
           go_wp2_with fail
           go_roundg (gk - 1)
           case measure => have := HJJ.out; omega
           case rel => exact ⟨j + 1, by have := HJJ.out; omega, by go_num, by rw [HA2.out, Bool.and_false], HW9.out, HB9.out⟩
          ·have hq1 : (2 * (m : Int) == (y : Int)) = false := by rw [beq_eq_false_iff_ne]; omega
           have hq2 : ¬ (2 * (m : Int) = (y : Int)) := by omega
           cases hmd : decide (2 * (m : Int) ∈ D) with
           | true =>
            have HA2 := Lib.hid (H_AN.out (PO i) j (by rw [HLO.out, HEM.out, HEY.out, hu, hmd, decide_eq_false hq2]; rfl))
            rw [hmd] at HCH
            clear hu hmy hmd
            go_wp2_with fail
            refine HCH.out.mono ?_
            rintro e w' ⟨rfl, rfl⟩
            go_wp2_with fail
            go_roundg (gk - 1)
            case measure => have := HJJ.out; omega
            case rel => exact ⟨j + 1, by have := HJJ.out; omega, by go_num, by rw [HA2.out], HW9.out, HB9.out⟩
           | false =>
            have HA2 := Lib.hid (H_AY.out (PO i) j (by rw [HLO.out, HEM.out, hu, hmd]; simp))
            rw [hmd] at HCH
            clear hu hmy hmd
            go_wp2_with fail
            refine HCH.out.mono ?_
            rintro e w' ⟨rfl, rfl⟩
            go_wp2_with fail
            go_roundg (gk - 1)
            case measure => have := HJJ.out; omega
            case rel => exact ⟨j + 1, by have := HJJ.out; omega, by go_num, by rw [HA2.out, Bool.and_false], HW9.out, HB9.out⟩
        ·obtain rfl : j = n8 := by have := HJJ.out; omega
         have hlt' : decide (j < j) = false := decide_eq_false hltj
         clear hltj
         cases hal : (AO && A (PO i) j) with
         | true =>
          have hal2 := hal
          rw [Bool.and_eq_true] at hal2
          have HY := Lib.hid (H_YES.out i hlti HBE.out (by rw [← HAO.out]; exact hal2.1) hal2.2)
          clear hal hal2
          go_wp2_with fail
          go_ret
          exact ⟨by rw [HY.out]; rfl, HWJ.out⟩
         | false =>
          have HN := Lib.hid (H_NO2.out i (by rw [← HAO.out]; exact hal))
          clear hal
          go_wp2_with fail
          go_roundg (g7 - 1)
          case measure => have := HI.out; omega
          case rel =>
           refine ⟨i + 1, by have := HI.out; omega, by go_num, HWJ.out, HBJ.out, fun q hq => ?_⟩
           by_cases e : q = i
           ·rw [e]; exact HN.out
           ·exact HJ.out q (by omega)
    | false =>
     have HN := Lib.hid (H_NO1.out i (by rw [HRB.out, HYT.out, hp1, hp2]; rfl))
     clear hp1 hp2
     go_wp2_with fail
     go_roundg (gk - 1)
     case measure => have := HI.out; omega
     case rel =>
      refine ⟨i + 1, by have := HI.out; omega, by go_num, HW7.out, HBB7.out, fun j hj => ?_⟩
      by_cases e : j = i
      ·rw [e]; exact HN.out
      ·exact HJ.out j (by omega)
  ·obtain rfl : i = dn := by have := HI.out; omega
   have hlt' : decide (i < i) = false := decide_eq_false hlti
   have HF := Lib.hid (H_NO.out HJ.out)
   clear hlti
   go_wp2_with fail
   go_ret
   exact ⟨by rw [HF.out]; rfl, HB5.out⟩
end Go.Proofs.YtngealmhgkoaiaaGreat
