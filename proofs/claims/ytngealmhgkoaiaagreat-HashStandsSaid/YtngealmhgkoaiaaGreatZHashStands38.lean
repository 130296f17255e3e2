/- Walk: bytes.Equal. -/
import Derived.Test.YtngealmhgkoaiaaGreatZHashStands03
import Derived.Laws.BytesArg
import Derived.Lib.Bytes
import Derived.Test.YtngealmhgkoaiaaGreatZHashStands37
import Derived.Test.YtngealmhgkoaiaaGreatZHashStands20
namespace Go.Proofs.YtngealmhgkoaiaaGreat
open Go.RowKit
set_option linter.unusedVariables false
theorem conv_bytes {w : World} {v : Value} {L : List Nat} (h : Rd w v (bvs L)) : (convert 25 9 v).run Tryz.prog w = .ok (.string (strOfNums (L.map fun (n : Nat) => (n : Int)))) w := by
 obtain ⟨a, cap, rfl, h1, h2, h3⟩ := h
 rcases h3 with ⟨e, hn⟩ | ⟨b, off, rfl, hc⟩
 ·have hL : L = [] := by
   have := congrArg List.length e
   rw [bvs_len] at this
   exact List.eq_nil_of_length_eq_zero this
  subst hL
  cases a with
  | none => exact run_convert_bytes_nil w 25 5 Tryz.underlying25 Tryz.underlying5 _ _ 9 Tryz.underlying9
  | some a =>
   obtain ⟨b, off, spot⟩ := a
   rw [run_convert_bytes_string w 25 9 5 _ _ _ Tryz.underlying25 Tryz.underlying5 Tryz.underlying9]
   rfl
 ·refine run_convert_bytes_arg w 25 5 Tryz.underlying25 Tryz.underlying5 b off _ _ _ ?_ ?_ 9 Tryz.underlying9
  ·rw [List.length_map, bvs_len]
  ·intro i hi
   rw [bvs_len] at hi
   rw [hc i _ (bvs_get hi)]
   congr 2
   rw [List.getD_eq_getElem?_getD, List.getElem?_map, List.getElem?_eq_getElem hi]; rfl
theorem strNums_inj {L M : List Nat} (hL : ∀ n ∈ L, n < 256) (hM : ∀ n ∈ M, n < 256) (h : (strOfNums (L.map fun (n : Nat) => (n : Int))).toList = (strOfNums (M.map fun (n : Nat) => (n : Int))).toList) : L = M := by
 rw [Lib.strOfNums_toList, Lib.strOfNums_toList] at h
 have h2 := congrArg (List.map UInt8.toNat) h
 unfold Lib.bytesOf at h2
 simp only [List.map_map] at h2
 have e : ∀ (K : List Nat), (∀ n ∈ K, n < 256) → K.map (UInt8.toNat ∘ ((fun (n : Int) => UInt8.ofNat n.toNat) ∘ fun (n : Nat) => (n : Int))) = K := by
  intro K hK
  conv => rhs; rw [← List.map_id K]
  apply List.map_congr_left
  intro n hn
  simp [Nat.mod_eq_of_lt (hK n hn)]
 rw [e L hL, e M hM] at h2
 exact h2
set_option maxRecDepth 100000 in
theorem beql_any (v1 v2 : Value) (L M : List Nat) (w : World) (h1 : Rd w v1 (bvs L)) (h2 : Rd w v2 (bvs M)) (hL : ∀ n ∈ L, n < 256) (hM : ∀ n ∈ M, n < 256) :
  Calls Tryz.prog 106 #[v1, v2] w fun e w' => e = .returned (.bool (decide (L = M))) ∧ w' = w := by
 have g1 := conv_bytes h1
 have g2 := conv_bytes h2
 have hiff : decide (L = M) = ((strOfNums (L.map fun (n : Nat) => (n : Int))).toList == (strOfNums (M.map fun (n : Nat) => (n : Int))).toList) := by
  by_cases e : L = M
  ·subst e; simp
  ·rw [decide_eq_false e, Eq.comm, beq_eq_false_iff_ne]
   exact fun h => e (strNums_inj hL hM h)
 rw [hiff]
 obtain ⟨S, hS⟩ : ∃ S, S = strOfNums (L.map fun (n : Nat) => (n : Int)) := ⟨_, rfl⟩
 obtain ⟨T, hT⟩ : ∃ S, S = strOfNums (M.map fun (n : Nat) => (n : Int)) := ⟨_, rfl⟩
 rw [← hS] at g1 ⊢
 rw [← hT] at g2 ⊢
 obtain ⟨a1, n1, k1, rfl⟩ : ∃ a n c, v1 = .slice a n c := by obtain ⟨a, c, e, _⟩ := h1; exact ⟨_, _, _, e⟩
 obtain ⟨a2, n2, k2, rfl⟩ : ∃ a n c, v2 = .slice a n c := by obtain ⟨a, c, e, _⟩ := h2; exact ⟨_, _, _, e⟩
 clear hS hT h1 h2 hiff
 go_enter Tryz.func106, Tryz.ntmps106
 go_wp2_with fail
 go_ret
 exact ⟨rfl, rfl⟩
end Go.Proofs.YtngealmhgkoaiaaGreat
/- Walk: hash.linked. -/
namespace Go.Proofs.YtngealmhgkoaiaaGreat
open Go.RowKit WalkM ShaM WireM
set_option linter.unusedVariables false
theorem kfalse {kd : Nat} (h : kd ≠ 1) : ((kd : Int) == 1) = false := by rw [beq_eq_false_iff_ne]; omega
set_option maxRecDepth 100000 in
set_option maxHeartbeats 2000000 in
theorem bears_any (d : NodeD) (c : Array Value) (w : World) (h : NodeC w d c) (hk : d.kind < 256) :
  Calls Tryz.prog 155 #[.agg c] w fun e w' => ∃ v, e = .returned v ∧ Rd w' v (bvs (bearsD d)) ∧ Below w.heap.size w w' := by
 obtain ⟨a1, c1, a2, c2, a3, c3, a4, c4, a5, c5, b1, e1, b2, e2, b3, e3, rfl, h1, h2, h3, h4, h5, h6, h7, h8⟩ := h
 have hba := (Below.refl w.heap.size w).alloc (Nat.le_refl _) (.cells #[.int .u8 (d.kind : Nat), .slice a1 d.leaf.box.length c1, .slice a2 d.leaf.sign.length c2, .slice a3 d.leaf.ident.length c3, .int .u8 (d.leaf.source : Nat), .slice a4 d.leaf.par.length c4, .slice a5 d.leaf.sig.length c5, .slice b1 d.par.box.length e1, .slice b2 d.par.hash.length e2, .slice b3 d.par.late.length e3] 54)
 have H4 := Lib.hid (h4.below hba (Nat.le_refl _))
 have H7 := Lib.hid (h7.below hba (Nat.le_refl _))
 have HB := Lib.hid hba
 unfold bearsD
 obtain ⟨kd, hkd⟩ : ∃ k, k = d.kind := ⟨_, rfl⟩
 obtain ⟨l1, hl1⟩ : ∃ x, x = d.leaf.box.length := ⟨_, rfl⟩
 obtain ⟨l2, hl2⟩ : ∃ x, x = d.leaf.sign.length := ⟨_, rfl⟩
 obtain ⟨l3, hl3⟩ : ∃ x, x = d.leaf.ident.length := ⟨_, rfl⟩
 obtain ⟨l4, hl4⟩ : ∃ x, x = d.leaf.par.length := ⟨_, rfl⟩
 obtain ⟨l5, hl5⟩ : ∃ x, x = d.leaf.sig.length := ⟨_, rfl⟩
 obtain ⟨l6, hl6⟩ : ∃ x, x = d.par.box.length := ⟨_, rfl⟩
 obtain ⟨l7, hl7⟩ : ∃ x, x = d.par.hash.length := ⟨_, rfl⟩
 obtain ⟨l8, hl8⟩ : ∃ x, x = d.par.late.length := ⟨_, rfl⟩
 obtain ⟨s, hs⟩ : ∃ x, x = d.leaf.source := ⟨_, rfl⟩
 obtain ⟨P4, hP4⟩ : ∃ x, x = d.leaf.par := ⟨_, rfl⟩
 obtain ⟨P7, hP7⟩ : ∃ x, x = d.par.hash := ⟨_, rfl⟩
 rw [← hl1, ← hl2, ← hl3, ← hl4, ← hl5, ← hl6, ← hl7, ← hl8, ← hs, ← hkd] at H4 H7 HB ⊢
 rw [← hkd] at hk
 rw [← hP4] at H4 ⊢
 rw [← hP7] at H7 ⊢
 clear h1 h2 h3 h4 h5 h6 h7 h8 hba hkd hl1 hl2 hl3 hl4 hl5 hl6 hl7 hl8 hs hP4 hP7
 by_cases h0 : kd = 1
 ·subst h0
  rw [if_pos rfl]
  go_enter Tryz.func155, Tryz.ntmps155
  go_wp2_with fail
  go_ret
  exact ⟨_, rfl, H4.out, HB.out⟩
 ·rw [if_neg h0]
  have hq := kfalse h0
  have hq2 : ¬ ((kd : Int) = 1) := by omega
  go_enter Tryz.func155, Tryz.ntmps155
  go_wp2_with fail
  go_ret
  exact ⟨_, rfl, H7.out, HB.out⟩
theorem lateU_len (t : List NodeD) (p c : Nat) : (lateU t p c).length ≤ (nd t p).par.late.length := by
 unfold lateU; rw [List.length_map]; exact List.length_filter_le _ _
/-- the late leaves beneath c among the first r -/
def lateUr (L : List Int) (c r : Nat) : List Int := ((L.take r).filter fun u => undZ (2 * u) (c : Int)).map fun u => 2 * u
theorem lateUr_yes {L : List Int} {c r : Nat} (hr : r < L.length) (h : undZ (2 * L.getD r 0) (c : Int) = true) : lateUr L c (r + 1) = lateUr L c r ++ [2 * L.getD r 0] := by
 unfold lateUr
 have e : L[r] = L.getD r 0 := by rw [List.getD_eq_getElem?_getD, List.getElem?_eq_getElem hr]; rfl
 rw [List.take_succ_eq_append_getElem hr, List.filter_append, List.map_append, e, List.filter_cons_of_pos (p := fun u => undZ (2 * u) (c : Int)) h]
 rfl
theorem lateUr_no {L : List Int} {c r : Nat} (hr : r < L.length) (h : undZ (2 * L.getD r 0) (c : Int) = false) : lateUr L c (r + 1) = lateUr L c r := by
 unfold lateUr
 have e : L[r] = L.getD r 0 := by rw [List.getD_eq_getElem?_getD, List.getElem?_eq_getElem hr]; rfl
 rw [List.take_succ_eq_append_getElem hr, List.filter_append, List.map_append, e, List.filter_cons_of_neg (p := fun u => undZ (2 * u) (c : Int)) (by rw [h]; simp)]
 simp
theorem any_yes {n i : Nat} {f : Nat → Bool} (hi : i < n) (h : f i = true) : (List.range n).any f = true := List.any_eq_true.2 ⟨i, List.mem_range.2 hi, h⟩
theorem any_no {n : Nat} {f : Nat → Bool} (h : ∀ i, i < n → f i = false) : (List.range n).any f = false := by
 rw [List.any_eq_false]
 intro i hi
 rw [h i (List.mem_range.1 hi)]; simp
set_option maxRecDepth 100000 in
set_option maxHeartbeats 8000000 in
theorem linked_any (v : Value) (t : List NodeD) (p l r c o : Nat) (w : World) (h : TreeR w v t) (hs : smallT t = true) (hok : TreeOk t) (hr : rightT t = true) (hpn : p < t.length) (hcn : c < t.length) (hon : o < t.length) (hl : leftZ (p : Int) = (l : Int)) (hrr : rightZ (p : Int) = (r : Int)) (hsum : l + r = c + o) (hsz : l + r ≤ 1000) :
  Calls Tryz.prog 82 #[v, .int .i64 (p : Nat), .int .i64 (c : Nat)] w fun e w' => e = .returned (.bool (linkB t p c o)) ∧ Below w.heap.size w w' := by
 have hlen := smallT_len hs
 obtain ⟨ta, tc, rfl, hc, hc2⟩ := h.sl
 have SE := fun (W : World) (hw : Below w.heap.size w W) => seen_any _ t p l r c o W (h.below hw (Nat.le_refl _)) hs hok hr hpn hon hl hrr hsum hsz
 have RS := fun (W : World) (hw : Below w.heap.size w W) => tresolve_any _ t c W (h.below hw (Nat.le_refl _)) hs hok hr hcn
 have UN := fun (u : Int) (W : World) => under_any (2 * u) (c : Int) W
 have hsl : (nd t p).par.late.length ≤ 60 := by have := of_decide_eq_true (smallT_nd hs p); omega
 have LU := lates_in hr hpn
 have RA := res_all (by omega) hr hcn
 have RL : (resX t c).length ≤ 1000000 := by
  have := resN_len (fun x => smallT_nd hs x) (lev c) c
  have h2 : 2 ^ lev c ≤ 40 := by have := (lev_inT (by omega) hr hcn).2; omega
  unfold resX; omega
 have GN := fun (W : World) (hw : Below w.heap.size w W) (i : Nat) (hi : i < t.length) => (h.below hw (Nat.le_refl _)).node hi
 have BE := fun (W : World) (m : Nat) (cs : Array Value) (hc : NodeC W (nd t m) cs) => bears_any (nd t m) cs W hc (hok.nd m).kind
 have BL : ∀ m, ∀ n ∈ bearsD (nd t m), n < 256 := by
  intro m n hn
  unfold bearsD at hn
  split at hn
  ·exact (hok.nd m).par n hn
  ·exact (hok.nd m).hash n hn
 have EQ := fun (W : World) (x y : Value) (m : Nat) (hx : Rd W x (bvs (bearsD (nd t m)))) (hy : Rd W y (bvs (shaF (seenT t p o)))) => beql_any x y _ _ W hx hy (BL m) (shaF_lt _)
 have YES := fun (i : Nat) (hi : i < (resX t c).length) (h1 : decide (bearsD (nd t ((resX t c).getD i 0).toNat) = shaF (seenT t p o)) = true) (h2 : decide (sortL ((resX t c).eraseIdx i) = lateU t p c) = true) => (show linkB t p c o = true from any_yes hi (by unfold linkAt; rw [h1, h2]; rfl))
 have NO1 := fun (i : Nat) (h1 : decide (bearsD (nd t ((resX t c).getD i 0).toNat) = shaF (seenT t p o)) = false) => (show linkAt t p c o i = false by unfold linkAt; rw [h1]; rfl)
 have NO2 := fun (i : Nat) (h1 : decide (sortL ((resX t c).eraseIdx i) = lateU t p c) = false) => (show linkAt t p c o i = false by unfold linkAt; rw [h1, Bool.and_false])
 have NO := fun (h : ∀ i, i < (resX t c).length → linkAt t p c o i = false) => (show linkB t p c o = false from any_no h)
 have LA := fun (W : World) (x y : Value) (i : Nat) (hx : Rd W x (ivs .i64 (sortL ((resX t c).eraseIdx i)))) (hy : Rd W y (ivs .i64 (lateU t p c))) => ieql_any x y _ _ W hx hy (by rw [sortL_len]; have := List.length_eraseIdx_le (resX t c) i; omega) (by have := lateU_len t p c; omega)
 have HLU : lateUr (nd t p).par.late c (nd t p).par.late.length = lateU t p c := by unfold lateUr lateU; rw [List.take_length]
 obtain ⟨b, off, lb, ee1, rfl, hbl, -, c9, rd9⟩ := h.at hpn
 obtain ⟨H, hH⟩ : ∃ H, H = shaF (seenT t p o) := ⟨_, rfl⟩
 rw [← hH] at SE EQ YES NO1
 obtain ⟨D, hD⟩ : ∃ D, D = resX t c := ⟨_, rfl⟩
 rw [← hD] at RS RA RL YES NO1 NO2 NO LA
 obtain ⟨LL, hLL⟩ : ∃ L, L = (nd t p).par.late := ⟨_, rfl⟩
 rw [← hLL] at LU hsl HLU c9 rd9
 obtain ⟨LC, hLC⟩ : ∃ L, L = lateU t p c := ⟨_, rfl⟩
 rw [← hLC] at LA YES NO2 HLU
 obtain ⟨R, hR⟩ : ∃ R, R = linkB t p c o := ⟨_, rfl⟩
 rw [← hR] at YES NO ⊢
 obtain ⟨LK, hLK⟩ : ∃ L, L = linkAt t p c o := ⟨_, rfl⟩
 rw [← hLK] at NO1 NO2 NO
 obtain ⟨n, hn⟩ : ∃ n, n = t.length := ⟨_, rfl⟩
 rw [← hn] at SE RS hc hlen RA GN LU hpn ⊢
 obtain ⟨n8, hn8⟩ : ∃ n, n = LL.length := ⟨_, rfl⟩
 rw [← hn8] at c9 rd9 hsl HLU
 have LG := fun (i : Nat) (hi : i < n8) => rd9.at3 (u := .int .i64 (LL.getD i 0)) (r := i) (by simp [ivs, List.getD_eq_getElem?_getD, ← hn8, hi])
 have LUr := fun (i : Nat) (hi : i < n8) => (show ∃ m : Nat, LL.getD i 0 = (m : Int) ∧ 2 * m < n from by
  obtain ⟨m, e, h1, -⟩ := LU (LL.getD i 0) (List.mem_iff_getElem?.2 ⟨i, getD_some (by omega)⟩)
  exact ⟨m, e, h1⟩)
 have LY := fun (i : Nat) (hi : i < n8) (h : undZ (2 * LL.getD i 0) (c : Int) = true) => lateUr_yes (c := c) (show i < LL.length by omega) h
 have LN := fun (i : Nat) (hi : i < n8) (h : undZ (2 * LL.getD i 0) (c : Int) = false) => lateUr_no (c := c) (show i < LL.length by omega) h
 have LZ : lateUr LL c 0 = [] := rfl
 have LL60 := fun (i : Nat) => (show (lateUr LL c i).length ≤ n8 by unfold lateUr; rw [List.length_map]; have := List.length_filter_le (fun u => undZ (2 * u) (c : Int)) (LL.take i); rw [List.length_take] at this; omega)
 obtain ⟨X, hX⟩ : ∃ X : Nat → Int, X = fun i => LL.getD i 0 := ⟨_, rfl⟩
 have hX' : ∀ i, LL.getD i 0 = X i := fun i => by rw [hX]
 obtain ⟨U, hU⟩ : ∃ U, U = lateUr LL c := ⟨_, rfl⟩
 simp only [hX', ← hU] at LG LUr LY LN LZ LL60 HLU
 obtain ⟨dn, hdn⟩ : ∃ n, n = D.length := ⟨_, rfl⟩
 obtain ⟨Y, hY⟩ : ∃ X : Nat → Int, X = fun i => D.getD i 0 := ⟨_, rfl⟩
 have hY' : ∀ i, D.getD i 0 = Y i := fun i => by rw [hY]
 have DA := fun (i : Nat) (hi : i < dn) => (show ∃ y : Nat, D.getD i 0 = (y : Int) ∧ y < n from by
  obtain ⟨y, e, h1, -⟩ := RA (D.getD i 0) (List.mem_iff_getElem?.2 ⟨i, getD_some (by omega)⟩)
  exact ⟨y, e, h1⟩)
 have DG := fun (W : World) (a : Option Addr) (c : Nat) (hd : Rd W (.slice a dn c) (ivs .i64 D)) (i : Nat) (hi : i < dn) => hd.at3 (u := .int .i64 (D.getD i 0)) (r := i) (by simp [ivs, List.getD_eq_getElem?_getD, ← hdn, hi])
 have CLN := fun (W : World) (v : Value) (hv : Rd W v (ivs .i64 D)) => iclone_any v D W hv (by omega)
 have DEL := fun (W : World) (V : Value) (B i : Nat) (hB : B ≤ W.heap.size) (hi : i < dn) (hV : Own W B 3 V (ivs .i64 D)) => idel_any V D i B W hV (by omega) (by omega) hB
 have SRT := fun (W : World) (V : Value) (B i : Nat) (hB : B ≤ W.heap.size) (hV : Own W B 3 V (ivs .i64 (D.eraseIdx i))) => isort_any V (D.eraseIdx i) B W hV (by have := List.length_eraseIdx_le D i; omega) hB
 simp only [hY'] at DA DG YES NO1
 rw [← hdn] at YES NO RL
 have BW := fun (y : Nat) (hy : y < n) => hbl
 have HSE := Lib.hid SE
 have HRS := Lib.hid RS
 have HUN := Lib.hid UN
 have HLG := Lib.hid fun (W : World) (hw : Below w.heap.size w W) => (show ∀ i, i < n8 → _ from fun i hi => (rd9.below hw (Nat.le_refl _)).at3 (u := .int .i64 (X i)) (r := i) (by simp [← hX', ivs, List.getD_eq_getElem?_getD, ← hn8, hi]))
 have HLU2 := Lib.hid LUr
 have HLY := Lib.hid LY
 have HLN := Lib.hid LN
 have HLZ := Lib.hid LZ
 have HL60 := Lib.hid LL60
 have HLC := Lib.hid HLU
 have HDA := Lib.hid DA
 have HDG := Lib.hid DG
 have HCLN := Lib.hid CLN
 have HDEL := Lib.hid DEL
 have HSRT := Lib.hid SRT
 have HGN := Lib.hid GN
 have HBE := Lib.hid BE
 have HEQ := Lib.hid EQ
 have HLA := Lib.hid LA
 have HYES := Lib.hid YES
 have HNO1 := Lib.hid NO1
 have HNO2 := Lib.hid NO2
 have HNO := Lib.hid NO
 have HDN := Lib.hid hdn
 have hpI : (p : Int) < (n : Int) := by omega
 clear SE RS UN LG LUr LY LN LZ LL60 HLU DA DG CLN DEL SRT GN BE EQ LA YES NO1 NO2 NO hdn LU RA BL BW hX hX' hY hY' hU hn hn8 hR hLK hLC hLL hD hH rd9 h hs hok hr hcn hon hl hrr hsum hsz
 go_enter Tryz.func82, Tryz.ntmps82
 go_wp2_with fail
 go_loopg [7, 22] n8 (fun q ov iv wr => ∃ r : Nat, r + q = n8 ∧ iv = .int .i64 (r : Nat) ∧ Below w.heap.size w wr ∧ Own wr w.heap.size 3 ov (ivs .i64 (U r)))
 case atStart => exact ⟨0, by omega, rfl, Below.refl _ _, by rw [HLZ.out]; exact Own.nil _ _ _⟩
 case round =>
  obtain ⟨r, hrq, rfl, hb, hown⟩ := hrel
  have HR := Lib.hid hrq
  have HB := Lib.hid hb
  have HO := Lib.hid hown
  clear hrq hb hown
  by_cases hlt : r < n8
  ·have hlt' : decide (r < n8) = true := decide_eq_true hlt
   have hltI : (r : Int) < (n8 : Int) := by omega
   obtain ⟨bb, oo, rfl, hlb, cu⟩ := HLG.out wr HB.out r hlt
   obtain ⟨m, em, hm⟩ := HLU2.out r hlt
   rw [em] at cu
   have hwm : wrap64 (2 * (m : Int)) = 2 * (m : Int) := wrap_in (by omega)
   have HEM := Lib.hid em
   have CU := Lib.hid (HUN.out (m : Int) wr)
   clear em
   cases hu : undZ (2 * (m : Int)) (c : Int) with
   | true =>
    rw [hu] at CU
    have HY1 := Lib.hid (HLY.out r hlt (by rw [HEM.out]; exact hu))
    clear hu
    go_wp2_with fail
    refine CU.out.mono ?_
    rintro e w' ⟨rfl, rfl⟩
    go_wp2_with (at_builtin; refine wpList_push rfl (.tmp 30) (.tmp 33) 50 rfl w.heap.size 3 _ 8 intsE _ _ rfl (HO.out.alloc _) ⟨wr.heap.size, 0, none⟩ (.int .i64 (2 * (m : Int))) rfl ?c1 rfl ?c2 ?c3 ?_)
    case c1 => exact cell_new rfl
    case c2 => have := HL60.out r; simp [ivs]; omega
    case c3 => have := HB.out.size; simp; omega
    rintro v' w2 hown2 hg2 hb2
    have HO2 := Lib.hid (show Own w2 w.heap.size 3 v' (ivs .i64 (U (r + 1))) by rw [HY1.out, HEM.out]; simpa [ivs] using hown2)
    have HB2 := Lib.hid ((HB.out.alloc HB.out.size (.cells #[.int .i64 (2 * (m : Int))] 3)).trans hb2)
    clear hown2 hg2 hb2
    go_wp2_with fail
    go_roundg (gk - 1)
    case measure => have := HR.out; omega
    case rel => exact ⟨r + 1, by have := HR.out; omega, by go_num, HB2.out, HO2.out⟩
   | false =>
    rw [hu] at CU
    have HY1 := Lib.hid (HLN.out r hlt (by rw [HEM.out]; exact hu))
    clear hu
    go_wp2_with fail
    refine CU.out.mono ?_
    rintro e w' ⟨rfl, rfl⟩
    go_wp2_with fail
    go_roundg (gk - 1)
    case measure => have := HR.out; omega
    case rel => exact ⟨r + 1, by have := HR.out; omega, by go_num, HB.out, by rw [HY1.out]; exact HO.out⟩
  ·obtain rfl : r = n8 := by have := HR.out; omega
   have hlt' : decide (r < r) = false := decide_eq_false hlt
   have HOL := Lib.hid (show Own wr w.heap.size 3 _ (ivs .i64 LC) from HLC.out ▸ HO.out)
   have HBW := Lib.hid HB.out
   clear hlt
   go_wp2_with fail
   refine (HSE.out wr HBW.out).mono ?_
   rintro e w3 ⟨vh, rfl, hrd, hb3⟩
   have HB3 := Lib.hid (HBW.out.trans (hb3.mono HBW.out.size))
   have HH3 := Lib.hid hrd
   have HOL3 := Lib.hid (HOL.out.below hb3 (Nat.le_refl _))
   clear hrd hb3
   go_wp2_with fail
   refine (HRS.out w3 HB3.out).mono ?_
   rintro e w4 ⟨vd, rfl, hown, hb4⟩
   have HB4 := Lib.hid (HB3.out.trans (hb4.mono HB3.out.size))
   have HH4 := Lib.hid (HH3.out.below hb4 (Nat.le_refl _))
   have HOL4 := Lib.hid ((HOL3.out.below hb4 (Nat.le_refl _)).rd)
   have HD4 := Lib.hid hown.rd
   obtain ⟨da, dc, rfl⟩ : ∃ a c, vd = .slice a dn c := by obtain ⟨a, c, e, _⟩ := hown.rd; rw [show (ivs .i64 D).length = dn by simp [ivs, HDN.out]] at e; exact ⟨a, c, e⟩
   clear hown hb4
   go_wp2_with fail
   obtain ⟨w5, rfl⟩ : ∃ w5, w5 = wr := ⟨_, rfl⟩
   obtain ⟨g5, rfl⟩ : ∃ g5, g5 = gk := ⟨_, rfl⟩
   obtain ⟨U7, hU7⟩ : ∃ u, u = u7 := ⟨_, rfl⟩
   rw [← hU7] at HOL4 ⊢
   clear hU7
   go_loopg [45] dn (fun q iv wr => ∃ i : Nat, i + q = dn ∧ iv = .int .i64 (i : Nat) ∧ Below w.heap.size w wr ∧ Below w4.heap.size w4 wr ∧ ∀ j, j < i → LK j = false)
   case atStart => exact ⟨0, by omega, rfl, HB4.out, Below.refl _ _, fun j hj => by omega⟩
   case round =>
    obtain ⟨i, hi, rfl, hb, hb4, hno⟩ := hrel
    have HI := Lib.hid hi
    have HB5 := Lib.hid hb
    have HBB := Lib.hid hb4
    have HJ := Lib.hid hno
    clear hi hb hb4 hno
    by_cases hlti : i < dn
    ·have hlt' : decide (i < dn) = true := decide_eq_true hlti
     have hltI : (i : Int) < (dn : Int) := by omega
     have hD5 := HD4.out.below HBB.out (Nat.le_refl _)
     obtain ⟨bd, od, rfl, hlb, cu⟩ := HDG.out wr _ _ hD5 i hlti
     obtain ⟨y, ey, hlt⟩ := HDA.out i hlti
     rw [ey] at cu
     have HEY := Lib.hid ey
     have HCL := Lib.hid (HCLN.out wr _ hD5)
     have HH5 := Lib.hid (HH4.out.below HBB.out (Nat.le_refl _))
     have HOL5 := Lib.hid (HOL4.out.below HBB.out (Nat.le_refl _))
     have hyI : (y : Int) < (n : Int) := by omega
     clear ey hD5
     go_wp2_with fail
     refine HCL.out.mono ?_
     rintro e w6 ⟨vc, rfl, hown, hb6⟩
     have HB6 := Lib.hid hb6
     have HO6 := Lib.hid hown
     clear hown hb6
     go_wp2_with fail
     refine (HDEL.out w6 vc wr.heap.size i HB6.out.size hlti HO6.out).mono ?_
     rintro e w7 ⟨vr, rfl, hown, hb7, -⟩
     have HB7 := Lib.hid (HB6.out.trans hb7)
     have HO7 := Lib.hid hown
     clear hown hb7
     go_wp2_with fail
     refine (HSRT.out w7 vr wr.heap.size i HB7.out.size HO7.out).mono ?_
     rintro e w8 ⟨rfl, hown, hb8, -⟩
     have HB8 := Lib.hid (HB7.out.trans hb8)
     have HO8 := Lib.hid hown.rd
     have HW8 := Lib.hid (HB5.out.trans (HB8.out.mono HB5.out.size))
     have HBB8 := Lib.hid (HBB.out.trans (HB8.out.mono HBB.out.size))
     have HH8 := Lib.hid (HH5.out.below HB8.out (Nat.le_refl _))
     have HOL8 := Lib.hid (HOL5.out.below HB8.out (Nat.le_refl _))
     clear hown hb8
     obtain ⟨b', off', cs, e0, hbl', hnc, hra⟩ := HGN.out w8 HW8.out y hlt
     obtain ⟨rfl, rfl⟩ : b = b' ∧ off = off' := by
      simp only [Option.some.injEq, Addr.mk.injEq, and_true] at e0
      exact e0
     have HCB := Lib.hid (HBE.out w8 y cs hnc)
     obtain ⟨a1, c1, a2, c2, a3, c3, a4, c4, a5, c5, b1, e1, b2, e2, b3, e3, hcs, -⟩ := hnc
     obtain ⟨kd, hkd⟩ : ∃ k, k = (nd t y).kind := ⟨_, rfl⟩
     obtain ⟨l1, hl1⟩ : ∃ l, l = (nd t y).leaf.box.length := ⟨_, rfl⟩
     obtain ⟨l2, hl2⟩ : ∃ l, l = (nd t y).leaf.sign.length := ⟨_, rfl⟩
     obtain ⟨l3, hl3⟩ : ∃ l, l = (nd t y).leaf.ident.length := ⟨_, rfl⟩
     obtain ⟨l4, hl4⟩ : ∃ l, l = (nd t y).leaf.par.length := ⟨_, rfl⟩
     obtain ⟨l5, hl5⟩ : ∃ l, l = (nd t y).leaf.sig.length := ⟨_, rfl⟩
     obtain ⟨l6, hl6⟩ : ∃ l, l = (nd t y).par.box.length := ⟨_, rfl⟩
     obtain ⟨l7, hl7⟩ : ∃ l, l = (nd t y).par.hash.length := ⟨_, rfl⟩
     obtain ⟨l8, hl8⟩ : ∃ l, l = (nd t y).par.late.length := ⟨_, rfl⟩
     obtain ⟨s, hsrc⟩ : ∃ s, s = (nd t y).leaf.source := ⟨_, rfl⟩
     rw [← hkd, ← hl1, ← hl2, ← hl3, ← hl4, ← hl5, ← hl6, ← hl7, ← hl8, ← hsrc] at hcs
     rw [hcs] at hra HCB
     have HRA := Lib.hid hra
     clear hkd hl1 hl2 hl3 hl4 hl5 hl6 hl7 hl8 hsrc hcs hra e0
     go_wp2_with (refine wpList_load_mid rfl 54 (.tmp 60) rfl b (off + y * 10) rfl [.int .u8 (kd : Nat), .slice a1 l1 c1, .slice a2 l2 c2, .slice a3 l3 c3, .int .u8 (s : Nat), .slice a4 l4 c4, .slice a5 l5 c5, .slice b1 l6 e1, .slice b2 l7 e2, .slice b3 l8 e3] _ HRA.out Tryz.underlying54 rfl node_info ?_)
     refine HCB.out.mono ?_
     rintro e w9 ⟨vb, rfl, hrd, hb9⟩
     have HB9 := Lib.hid hb9
     have HBR := Lib.hid hrd
     clear hrd hb9
     go_wp2_with fail
     refine (HEQ.out w9 vb _ y HBR.out (HH8.out.below HB9.out (Nat.le_refl _))).mono ?_
     rintro e w' ⟨rfl, rfl⟩
     have HW9 := Lib.hid (HW8.out.trans (HB9.out.mono HW8.out.size))
     have HBB9 := Lib.hid (HBB8.out.trans (HB9.out.mono HBB8.out.size))
     cases hbe : decide (bearsD (nd t y) = H) with
     | false =>
      have HN := Lib.hid (HNO1.out i (by rw [HEY.out, Int.toNat_natCast]; exact hbe))
      clear hbe
      go_wp2_with fail
      go_roundg (gk - 1)
      case measure => have := HI.out; omega
      case rel =>
       refine ⟨i + 1, by have := HI.out; omega, by go_num, HW9.out, HBB9.out, fun j hj => ?_⟩
       by_cases e : j = i
       ·rw [e]; exact HN.out
       ·exact HJ.out j (by omega)
     | true =>
      have HBT := Lib.hid (show decide (bearsD (nd t (Y i).toNat) = H) = true by rw [HEY.out, Int.toNat_natCast]; exact hbe)
      clear hbe
      have HLE := Lib.hid (HLA.out w' _ _ i (HO8.out.below HB9.out (Nat.le_refl _)) (HOL8.out.below HB9.out (Nat.le_refl _)))
      go_wp2_with fail
      refine HLE.out.mono ?_
      rintro e w10 ⟨rfl, nq, rfl⟩
      have HW10 := Lib.hid (below_drewN' HW9.out nq)
      have HBB10 := Lib.hid (below_drewN' HBB9.out nq)
      cases hst : decide (sortL (D.eraseIdx i) = LC) with
      | true =>
       have HY := Lib.hid (HYES.out i hlti HBT.out hst)
       clear hst
       go_wp2_with fail
       go_ret
       exact ⟨by rw [HY.out]; rfl, HW10.out⟩
      | false =>
       have HN := Lib.hid (HNO2.out i hst)
       clear hst
       go_wp2_with fail
       go_roundg (gk - 1)
       case measure => have := HI.out; omega
       case rel =>
        refine ⟨i + 1, by have := HI.out; omega, by go_num, HW10.out, HBB10.out, fun j hj => ?_⟩
        by_cases e : j = i
        ·rw [e]; exact HN.out
        ·exact HJ.out j (by omega)
    ·obtain rfl : i = dn := by have := HI.out; omega
     have hlt' : decide (i < i) = false := decide_eq_false hlti
     have HF := Lib.hid (HNO.out HJ.out)
     clear hlti
     go_wp2_with fail
     go_ret
     exact ⟨by rw [HF.out]; rfl, HB5.out⟩
end Go.Proofs.YtngealmhgkoaiaaGreat
