/- Walks: sha.step. -/
import Derived.Test.YtohldijomcljkaaZHashTrees19
import Derived.Test.YtohldijomcljkaaZHashTrees22
import Derived.Deep.QuietTactic
import Derived.BigQuiet
namespace Go.Proofs.Ytohldijomcljkaa
open Go.RowKit ShaM
set_option linter.unusedVariables false
theorem ext_getD {A B : List Nat} (hl : A.length = B.length) (h : ∀ j, j < A.length → A.getD j 0 = B.getD j 0) : A = B := by
  apply List.ext_getElem hl
  intro i h1 h2
  have := h i h1
  simpa [List.getD_eq_getElem?_getD, List.getElem?_eq_getElem h1, List.getElem?_eq_getElem h2] using this
/-- a callee that draws nothing, in a quiet region behind another one -/
theorem quiet2 {P : Program} {f : FuncId} {args : Array Value} {w : World} {a n : Nat} {v : Value}
    (h : Calls P f args (w.drewN (a + n)) fun e w' => e = .returned v ∧ w' = w.drewN (a + n)) : Calls P f args (w.drewN (a + n)) fun e w'' => e = .returned v ∧ ∃ m, w'' = w.drewN (a + m) :=
  h.mono fun _ _ ⟨he, hm⟩ => ⟨he, n, hm⟩
/-- one block alone may be another -/
def OnlyG (g : Nat) (w w' : World) : Prop := Below g w w' ∧ w.heap.size ≤ w'.heap.size ∧ ∀ i, i < w.heap.size → i ≠ g → w'.heap[i]? = w.heap[i]?
theorem OnlyG.of_below {g : Nat} {w w' : World} (h : Below w.heap.size w w') (hg : g ≤ w.heap.size) : OnlyG g w w' := ⟨h.mono hg, h.size, fun i hi _ => h.block i hi⟩
theorem OnlyG.trans {g : Nat} {a b c : World} (h : OnlyG g a b) (k : OnlyG g b c) : OnlyG g a c := ⟨h.1.trans k.1, Nat.le_trans h.2.1 k.2.1, fun i hi hne => (k.2.2 i (Nat.lt_of_lt_of_le hi h.2.1) hne).trans (h.2.2 i hi hne)⟩
theorem OnlyG.setCell {g : Nat} {w : World} (i : Nat) (u : Value) : OnlyG g w (w.setCell ⟨g, i, none⟩ u) := ⟨(Below.refl _ _).setCell (p := ⟨g, i, none⟩) (Nat.le_refl _) u, by simp, fun k hk hne => Below.heap_setCell w ⟨g, i, none⟩ u k (fun e => hne e)⟩
theorem Blk.only2 {w w' : World} {g b : Nat} {t : TypeId} {cs : Array Value} (h : Blk w b t cs) (ho : OnlyG g w w') (hne : b ≠ g) : Blk w' b t cs := (ho.2.2 b h.lt hne).trans h
theorem OnlyG.setRow {w : World} (g : Nat) (cs : Array Value) : OnlyG g w (w.setRow g cs) := ⟨⟨rfl, rfl, rfl, by simp, fun i hi => setRow_other w g i cs (by omega)⟩, by simp, fun i _ hne => setRow_other w g i cs hne⟩
theorem OnlyG.drewN {g : Nat} {a b : World} (h : OnlyG g a b) (n : Nat) : OnlyG g a (b.drewN n) := ⟨below_drewN' h.1 n, h.2.1, h.2.2⟩
theorem evs {a : Act} {s : Nat} {v : Value} (h : a.tmps[s]?.getD undef = v) : a.eval (.tmp s) = v := by
  first
  | exact h
  | simpa [Act.eval, Array.getD_eq_getD_getElem?] using h
theorem wp_copy_row {P : Program} {w : World} {o : Oper} {a : Act} {K : Act → World → Prop} {Q : Exit → Act → World → Prop} (d s : Operand) (dT sT : TypeId)
    (ho : o.op = .call { callee := .builtin .copy, args := #[d, s], argTypes := #[dT, sT] }) (elem : TypeId) (g o' dLen dCap : Nat) (ad : Addr) (sLen sCap : Nat) (cur : Array Value) (t : TypeId) (cs : List Value)
    (hd : a.eval d = .slice (some ⟨g, o', none⟩) dLen dCap) (hs : a.eval s = .slice (some ad) sLen sCap) (hu : P.underlying dT = some (.slice elem)) (hsz : (P.info? elem).map (·.size) = some 1)
    (hg : w.heap[g]? = some (.cells cur t (0, 0))) (hn : cs.length = Nat.min sLen dLen) (hsrc : ∀ j v, cs[j]? = some v → w.cell? (ad.add j) = some v) (hfit : o' + cs.length ≤ cur.size) (h1 : ∀ v ∈ cs, v.oneCell' = true)
    (h : K (a.put o.dst (goInt cs.length)) (w.setRow g (cur.toList.take o' ++ cs ++ cur.toList.drop (o' + cs.length)).toArray)) : o.wp P a w K Q := by
  have hr := run_copy_row (P := P) w dT sT o.type elem g o' dLen dCap ad sLen sCap cur t cs hu hsz hg hn hsrc hfit h1
  unfold Oper.wp execOp
  simp only [ho, resolve, invoke, builtin, Sem.run_bind, Sem.run_pure, Result.andThen_ok, List.map_toArray, List.map_cons, List.map_nil, hd, hs, hr]
  exact h
theorem not32 (x : Nat) (hx : x < 4294967296) : bits .xor .u32 IntKind.u32.max (x : Int) = ((4294967295 - x : Nat) : Int) := by
  have e : IntKind.u32.max = ((4294967295 : Nat) : Int) := rfl
  have h : 4294967295 ^^^ x = 4294967295 - x := by
    apply Nat.eq_of_testBit_eq
    intro i
    by_cases hi : i < 32
    · rw [not_bit hx hi, Nat.testBit_xor, show (4294967295 : Nat) = 2 ^ 32 - 1 from rfl, Nat.testBit_two_pow_sub_one, decide_eq_true hi, Bool.true_xor]
    · have h1 : (4294967295 - x).testBit i = false := Nat.testBit_lt_two_pow (Nat.lt_of_lt_of_le (show 4294967295 - x < 2 ^ 32 by omega) (Nat.pow_le_pow_right (by omega) (by omega)))
      have h2 : x.testBit i = false := Nat.testBit_lt_two_pow (Nat.lt_of_lt_of_le (show x < 2 ^ 32 by omega) (Nat.pow_le_pow_right (by omega) (by omega)))
      rw [h1, Nat.testBit_xor, h2, show (4294967295 : Nat) = 2 ^ 32 - 1 from rfl, Nat.testBit_two_pow_sub_one, decide_eq_false hi]; rfl
  rw [e, xor32 _ _ (by omega) hx, h]
theorem OnlyG.far {g p : Nat} {w a b : World} (h : OnlyG g w a) (k : OnlyG p a b) (hp : w.heap.size ≤ p) (hg : g ≤ p) : OnlyG g w b := ⟨h.1.trans (k.1.mono hg), Nat.le_trans h.2.1 k.2.1, fun i hi hne => (k.2.2 i (Nat.lt_of_lt_of_le hi h.2.1) (by omega)).trans (h.2.2 i hi hne)⟩
/-- the first i sums -/
def addP (S X : List Nat) (i : Nat) : List Nat := (List.range 8).map fun j => if j < i then (S.getD j 0 + X.getD j 0) % 4294967296 else S.getD j 0
theorem addP_len (S X : List Nat) (i : Nat) : (addP S X i).length = 8 := by simp [addP]
theorem addP_get (S X : List Nat) (i : Nat) {j : Nat} (h : j < 8) : (addP S X i).getD j 0 = if j < i then (S.getD j 0 + X.getD j 0) % 4294967296 else S.getD j 0 := by simp [addP, List.getD_eq_getElem?_getD, h]
theorem addP_zero {S : List Nat} (X : List Nat) (hl : S.length = 8) : addP S X 0 = S := by
  refine ext_getD (by rw [addP_len, hl]) fun j hj => ?_
  rw [addP_len] at hj
  rw [addP_get _ _ _ hj, if_neg (by omega)]
theorem addP_step (S X : List Nat) {i : Nat} (h : i < 8) : (addP S X i).set i ((S.getD i 0 + X.getD i 0) % 4294967296) = addP S X (i + 1) := by
  refine ext_getD (by rw [List.length_set, addP_len, addP_len]) fun j hj => ?_
  rw [List.length_set, addP_len] at hj
  rw [addP_get _ _ _ hj, List.getD_eq_getElem?_getD, List.getElem?_set]
  by_cases e : i = j
  · subst e
    rw [if_pos rfl, if_pos (by rw [addP_len]; exact hj), if_pos (by omega)]; rfl
  · rw [if_neg e, ← List.getD_eq_getElem?_getD, addP_get _ _ _ hj]
    by_cases h1 : j < i
    · rw [if_pos h1, if_pos (by omega)]
    · rw [if_neg h1, if_neg (by omega)]
theorem addP_all (S B : List Nat) : addP S (rndsN (wL B 64) S 64) 8 = stepN S B := by
  unfold addP stepN
  refine List.map_congr_left fun j hj => ?_
  rw [if_pos (List.mem_range.1 hj)]
def WLa (B : List Nat) : Array Value := u32a (wL B 64)
set_option maxRecDepth 100000 in
set_option maxHeartbeats 8000000 in
theorem step_any (g : Nat) (v : Value) (S B : List Nat) (w : World) (hg : Blk w g 132 (u32a S)) (hS : ∀ x ∈ S, x < 4294967296) (hl : S.length = 8) (h : Rd w v (bvs B)) (hB : ∀ x ∈ B, x < 256) (hlb : B.length = 64) :
    Calls Try.prog 149 #[.pointer (some ⟨g, 0, none⟩), v] w fun e w' => e = .returned (.tuple #[]) ∧ Blk w' g 132 (u32a (stepN S B)) ∧ OnlyG g w w' := by
  have hz : ∀ w, (zeroValue 140).run Try.prog w = .ok (.agg Z64) w := fun _ => by kernel_rfl
  have hz8 : ∀ w, (zeroValue 132).run Try.prog w = .ok (.agg Z8a) w := fun _ => by kernel_rfl
  have WD := words_any v B w h hB hlb
  have CN := fun (W : World) => consts_any W
  have hwl := wL_lt hB 64
  have hwn := wL_len B 64
  obtain ⟨W, hW⟩ : ∃ W, W = wL B 64 := ⟨_, rfl⟩
  rw [← hW] at WD hwl hwn
  obtain ⟨WA, hWA⟩ : ∃ A, A = u32a W := ⟨_, rfl⟩
  obtain ⟨SA, hSA⟩ : ∃ A, A = u32a S := ⟨_, rfl⟩
  obtain ⟨KA, hKA⟩ : ∃ A, A = KLa := ⟨_, rfl⟩
  rw [← hWA] at WD
  rw [← hSA] at hg
  simp only [← hKA] at CN
  have IW := Lib.hid (show (Try.prog.info? 140).map (·.size) = some WA.size by rw [hWA]; exact info64 W hwn)
  have IK := Lib.hid (show (Try.prog.info? 140).map (·.size) = some KA.size by rw [hKA, KLa]; exact info64 KL rfl)
  have IS := Lib.hid (show (Try.prog.info? 132).map (·.size) = some SA.size by rw [hSA]; exact info8 S hl)
  have ZW := Lib.hid (show Z64.size = WA.size by rw [hWA]; unfold Z64; rw [u32a_size, u32a_size, hwn]; rfl)
  have ZK := Lib.hid (show Z64.size = KA.size by rw [hKA]; unfold Z64 KLa; rw [u32a_size, u32a_size]; rfl)
  have ZS := Lib.hid (show Z8a.size = SA.size by rw [hSA]; unfold Z8a; rw [u32a_size, u32a_size, hl]; rfl)
  have OW := Lib.hid (show WA.toList.all (·.oneCell') = true by rw [hWA, Array.all_toList]; exact u32a_one W)
  have OK := Lib.hid (show KA.toList.all (·.oneCell') = true by rw [hKA, Array.all_toList]; exact u32a_one KL)
  have OS := Lib.hid (show SA.toList.all (·.oneCell') = true by rw [hSA, Array.all_toList]; exact u32a_one S)
  have HWD := Lib.hid WD
  have HCN := Lib.hid CN
  have HG := Lib.hid hg
  have EW := Lib.hid hW
  have EWA := Lib.hid hWA
  have ESA := Lib.hid hSA
  have EKA := Lib.hid hKA
  have HSL := Lib.hid hS
  have HLN := Lib.hid hl
  have HWL := Lib.hid hwl
  have HWN := Lib.hid hwn
  have hv : ∃ a b c, v = .slice a b c := by obtain ⟨a, c, e, _⟩ := h; exact ⟨a, _, c, e⟩
  obtain ⟨a1, a2, a3, rfl⟩ := hv
  clear WD CN hwl hwn hW hWA hSA hKA h hB hlb hg hS hl
  go_enter Try.func149, Try.ntmps149
  go_wp2_with fail
  refine (HWD.out).mono ?_
  rintro e w1 ⟨rfl, hb1⟩
  go_wp2_with fail
  refine (HCN.out w1).mono ?_
  rintro e w2 ⟨rfl, hb2⟩
  have HB2 := Lib.hid (hb1.trans (hb2.mono hb1.size))
  clear hb1 hb2
  have hgl : g < w.heap.size := HG.out.lt
  have hw2 : w.heap.size ≤ w2.heap.size := HB2.out.size
  have K0 := Lib.hid (show Blk ((w2.alloc (.cells Z64 140)).alloc (.cells Z64 140)) w2.heap.size 140 Z64 from (Blk.new w2 _ _).alloc _)
  have K1 := Lib.hid (show Blk ((w2.alloc (.cells Z64 140)).alloc (.cells Z64 140)) (w2.heap.size + 1) 140 Z64 by have := Blk.new (w2.alloc (.cells Z64 140)) 140 Z64; simpa using this)
  have KB := Lib.hid (show Below w.heap.size w ((w2.alloc (.cells Z64 140)).alloc (.cells Z64 140)) from (HB2.out.alloc hw2 _).alloc (by simp; omega) _)
  go_wp2_with (refine wpList_store_blk rfl 140 (.tmp 4) (.tmp 14) rfl w2.heap.size WA rfl rfl 140 Z64 K0.out IW.out ZW.out OW.out ?_)
  intro w3 m0 mb mo msz
  have J0 := Lib.hid m0
  have J1 := Lib.hid ((mo (w2.heap.size + 1) (by omega)).trans K1.out : Blk w3 (w2.heap.size + 1) 140 Z64)
  have JB := Lib.hid (KB.out.trans ((mb w2.heap.size (Nat.le_refl _)).mono hw2))
  have hs3 : w3.heap.size = w2.heap.size + 2 := by omega
  clear m0 mb mo msz K0 K1 KB
  go_wp2_with (refine wpList_store_blk rfl 140 (.tmp 5) (.tmp 15) rfl (w2.heap.size + 1) KA rfl rfl 140 Z64 J1.out IK.out ZK.out OK.out ?_)
  intro w4 m0 mb mo msz
  have L1 := Lib.hid m0
  have L0 := Lib.hid ((mo w2.heap.size (by omega)).trans J0.out : Blk w4 w2.heap.size 140 WA)
  have LB := Lib.hid (JB.out.trans ((mb (w2.heap.size + 1) (Nat.le_refl _)).mono (by omega)))
  have hs4 : w4.heap.size = w2.heap.size + 2 := by omega
  have LG := Lib.hid (HG.out.below LB.out hgl)
  obtain ⟨p0, hp0⟩ : ∃ p, p = w2.heap.size := ⟨_, rfl⟩
  obtain ⟨p1, hp1⟩ : ∃ p, p = w2.heap.size + 1 := ⟨_, rfl⟩
  obtain ⟨p2, hp2⟩ : ∃ p, p = w2.heap.size + 2 := ⟨_, rfl⟩
  rw [← hp0] at L0
  rw [← hp1] at L1
  have N2 := Lib.hid (show Blk (w4.alloc (.cells Z8a 132)) p2 132 Z8a by rw [hp2, ← hs4]; exact Blk.new w4 _ _)
  have NB := Lib.hid (LB.out.alloc (by omega) (.cells Z8a 132))
  have q0 : p0 < p2 := by omega
  have q1 : p1 < p2 := by omega
  have q2 : g < p0 := by omega
  have q3 : p0 ≠ p1 := by omega
  have Q := Lib.hid (show w.heap.size ≤ p2 by omega)
  have HP0 := Lib.hid hp0
  have HP1 := Lib.hid hp1
  have HP2 := Lib.hid hp2
  rw [← hp1, ← hp0]
  clear m0 mb mo msz J0 J1 JB hs3 hw2
  clear hp0 hp1
  go_wp2_with (first | (refine wpList_load_row rfl 132 (.tmp 17) rfl g rfl 132 SA (0, 0) _ LG.out Try.underlying132 rfl IS.out ?_) | (refine wpList_store_blk rfl 132 (.tmp 6) (.tmp 18) rfl (w2.heap.size + 2) SA rfl rfl 132 Z8a (by rw [← HP2.out]; exact N2.out) IS.out ZS.out OS.out ?_))
  intro w5 m0 mb mo msz
  rw [← HP2.out] at m0 mb mo
  rw [← HP2.out]
  have M2 := Lib.hid (show Blk w5 p2 132 (u32a (rndsN W S 0)) by rw [rndsN, ← ESA.out]; exact m0)
  have MB := mb p2 (Nat.le_refl _)
  have hs5 : p2 < w5.heap.size := m0.lt
  have L0' := ((show Blk w4 p0 140 WA from L0.out).alloc (.cells Z8a 132)).below MB q0
  have L1' := ((show Blk w4 p1 140 KA from L1.out).alloc (.cells Z8a 132)).below MB q1
  have LG' := ((show Blk w4 g 132 SA from LG.out).alloc (.cells Z8a 132)).below MB (by omega)
  rw [EWA.out] at L0'
  rw [EKA.out, KLa] at L1'
  rw [ESA.out] at LG'
  have M0 := Lib.hid L0'
  have M1 := Lib.hid L1'
  have MG := Lib.hid LG'
  have MBB := Lib.hid (NB.out.trans (MB.mono Q.out))
  clear m0 mb mo msz MB L0' L1' LG' L0 L1 LG N2 NB LB
  have q4 : p0 ≠ p2 := by omega
  have q5 : p1 ≠ p2 := by omega
  have q6 : g ≠ p2 := by omega
  clear hs4 hp2 HP0 HP1 HP2 HB2 HWD HCN HG IW IK IS ZW ZK ZS OW OK OS
  go_wp2_with fail
  go_loopg [19] 64 (fun q iv wr => ∃ t : Nat, t + q = 64 ∧ iv = .int .i64 (t : Nat) ∧ Blk wr p2 132 (u32a (rndsN W S t)) ∧ OnlyG p2 w5 wr)
  case atStart => exact ⟨0, rfl, rfl, M2.out, OnlyG.of_below (Below.refl _ _) (by omega)⟩
  case round =>
    obtain ⟨t, ht, rfl, k2, ho⟩ := hrel
    have HT := Lib.hid ht
    have HK2 := Lib.hid k2
    have HO := Lib.hid ho
    obtain ⟨V, hV⟩ : ∃ V, V = rndsN W S t := ⟨_, rfl⟩
    have hvo := rndsN_ok (W := W) HLN.out HSL.out t
    rw [← hV] at hvo k2
    have HV := Lib.hid hV
    by_cases hlt : t < 64
    · have hlt' : decide ((t : Int) < 64) = true := by rw [decide_eq_true_iff]; omega
      have XC := fun (i : Nat) (hi : i < 8) => (show wr.cell? ⟨p2, i, none⟩ = some (.int .u32 ((V.getD i 0 : Nat) : Int)) by rw [k2.cell i, u32a_get (by rw [hvo.1]; exact hi)])
      have XL := fun (i : Nat) => getD_lt32 hvo.2 i
      have ck := (show wr.cell? ⟨p1, t, none⟩ = some (.int .u32 ((KL.getD t 0 : Nat) : Int)) by rw [(M1.out.only2 ho q5).cell t, u32a_get (by rw [KL_len]; exact hlt)])
      have cw := (show wr.cell? ⟨p0, t, none⟩ = some (.int .u32 ((W.getD t 0 : Nat) : Int)) by rw [(M0.out.only2 ho q4).cell t, u32a_get (by rw [HWN.out]; exact hlt)])
      have hkl := getD_lt32 KL_lt t
      have hwl := getD_lt32 HWL.out t
      have x0 := XC 0 (by omega)
      have x1 := XC 1 (by omega)
      have x2 := XC 2 (by omega)
      have x3 := XC 3 (by omega)
      have x4 := XC 4 (by omega)
      have x5 := XC 5 (by omega)
      have x6 := XC 6 (by omega)
      have x7 := XC 7 (by omega)
      have b0 := XL 0
      have b1 := XL 1
      have b2 := XL 2
      have b3 := XL 3
      have b4 := XL 4
      have b5 := XL 5
      have b6 := XL 6
      have b7 := XL 7
      obtain ⟨v0, e0⟩ : ∃ v, v = V.getD 0 0 := ⟨_, rfl⟩
      obtain ⟨v1, e1⟩ : ∃ v, v = V.getD 1 0 := ⟨_, rfl⟩
      obtain ⟨v2, e2⟩ : ∃ v, v = V.getD 2 0 := ⟨_, rfl⟩
      obtain ⟨v3, e3⟩ : ∃ v, v = V.getD 3 0 := ⟨_, rfl⟩
      obtain ⟨v4, e4⟩ : ∃ v, v = V.getD 4 0 := ⟨_, rfl⟩
      obtain ⟨v5, e5⟩ : ∃ v, v = V.getD 5 0 := ⟨_, rfl⟩
      obtain ⟨v6, e6⟩ : ∃ v, v = V.getD 6 0 := ⟨_, rfl⟩
      obtain ⟨v7, e7⟩ : ∃ v, v = V.getD 7 0 := ⟨_, rfl⟩
      obtain ⟨kk, ekk⟩ : ∃ v, v = KL.getD t 0 := ⟨_, rfl⟩
      obtain ⟨ww, eww⟩ : ∃ v, v = W.getD t 0 := ⟨_, rfl⟩
      rw [← e0] at x0 b0
      rw [← e1] at x1 b1
      rw [← e2] at x2 b2
      rw [← e3] at x3 b3
      rw [← e4] at x4 b4
      rw [← e5] at x5 b5
      rw [← e6] at x6 b6
      rw [← e7] at x7 b7
      rw [← ekk] at ck hkl
      rw [← eww] at cw hwl
      have HVL := Lib.hid (show V = [v0, v1, v2, v3, v4, v5, v6, v7] from by
        refine ext_getD (by rw [hvo.1]; rfl) fun j hj => ?_
        rw [hvo.1] at hj
        rcases (show j = 0 ∨ j = 1 ∨ j = 2 ∨ j = 3 ∨ j = 4 ∨ j = 5 ∨ j = 6 ∨ j = 7 by omega) with rfl | rfl | rfl | rfl | rfl | rfl | rfl | rfl
        · exact e0.symm
        · exact e1.symm
        · exact e2.symm
        · exact e3.symm
        · exact e4.symm
        · exact e5.symm
        · exact e6.symm
        · exact e7.symm)
      have HEK := Lib.hid ekk
      have HEW := Lib.hid eww
      clear e0 e1 e2 e3 e4 e5 e6 e7 ekk eww XC XL hvo hV k2 ho ht
      obtain ⟨r1, hr1⟩ : ∃ r, r = rot v4 6 := ⟨_, rfl⟩
      obtain ⟨r2, hr2⟩ : ∃ r, r = rot v4 11 := ⟨_, rfl⟩
      obtain ⟨r3, hr3⟩ : ∃ r, r = rot v4 25 := ⟨_, rfl⟩
      obtain ⟨r4, hr4⟩ : ∃ r, r = rot v0 2 := ⟨_, rfl⟩
      obtain ⟨r5, hr5⟩ : ∃ r, r = rot v0 13 := ⟨_, rfl⟩
      obtain ⟨r6, hr6⟩ : ∃ r, r = rot v0 22 := ⟨_, rfl⟩
      have SF := fun (x n r : Nat) (z : Int) (hz : z = (n : Int)) (hx : x < 4294967296) (h1 : 1 ≤ n) (h2 : n ≤ 31) (hr : r = rot x n) (W' : World) => (show Calls Try.prog 158 #[.int .u32 (x : Nat), .int .i64 z] W' fun e w' => e = .returned (.int .u32 (r : Nat)) ∧ w' = W' by rw [hz, hr]; exact sright_any x n hx h1 h2 W')
      have R1 := Lib.hid (SF v4 6 r1 6 rfl b4 (by omega) (by omega) hr1)
      have R2 := Lib.hid (SF v4 11 r2 11 rfl b4 (by omega) (by omega) hr2)
      have R3 := Lib.hid (SF v4 25 r3 25 rfl b4 (by omega) (by omega) hr3)
      have R4 := Lib.hid (SF v0 2 r4 2 rfl b0 (by omega) (by omega) hr4)
      have R5 := Lib.hid (SF v0 13 r5 13 rfl b0 (by omega) (by omega) hr5)
      have R6 := Lib.hid (SF v0 22 r6 22 rfl b0 (by omega) (by omega) hr6)
      have d1 : r1 < 4294967296 := by rw [hr1]; exact rot_lt b4 (by omega)
      have d2 : r2 < 4294967296 := by rw [hr2]; exact rot_lt b4 (by omega)
      have d3 : r3 < 4294967296 := by rw [hr3]; exact rot_lt b4 (by omega)
      have d4 : r4 < 4294967296 := by rw [hr4]; exact rot_lt b0 (by omega)
      have d5 : r5 < 4294967296 := by rw [hr5]; exact rot_lt b0 (by omega)
      have d6 : r6 < 4294967296 := by rw [hr6]; exact rot_lt b0 (by omega)
      have X1 := xor32 r1 r2 d1 d2
      have X2 := xor32 (r1 ^^^ r2) r3 (xor_lt32 d1 d2) d3
      have X3 := xor32 r4 r5 d4 d5
      have X4 := xor32 (r4 ^^^ r5) r6 (xor_lt32 d4 d5) d6
      obtain ⟨z1, hz1⟩ : ∃ z, z = r1 ^^^ r2 := ⟨_, rfl⟩
      obtain ⟨z3, hz3⟩ : ∃ z, z = r4 ^^^ r5 := ⟨_, rfl⟩
      rw [← hz1] at X1 X2
      rw [← hz3] at X3 X4
      have HE1 := Lib.hid (show z1 ^^^ r3 = S1N v4 by rw [hz1, hr1, hr2, hr3]; rfl)
      have HE2 := Lib.hid (show z3 ^^^ r6 = S0N v0 by rw [hz3, hr4, hr5, hr6]; rfl)
      rw [HE1.out] at X2
      rw [HE2.out] at X4
      have A1 := and32 v4 v5 b4 b5
      have A2 := and32 (4294967295 - v4) v6 (by omega) b6
      have A3 := xor32 (v4 &&& v5) ((4294967295 - v4) &&& v6) (and_lt32 b4) (and_lt32 (by omega))
      have A4 := and32 v0 v1 b0 b1
      have A5 := and32 v0 v2 b0 b2
      have A6 := and32 v1 v2 b1 b2
      have A7 := xor32 (v0 &&& v1) (v0 &&& v2) (and_lt32 b0) (and_lt32 b0)
      have A8 := xor32 ((v0 &&& v1) ^^^ (v0 &&& v2)) (v1 &&& v2) (xor_lt32 (and_lt32 b0) (and_lt32 b0)) (and_lt32 b1)
      have HC1 := Lib.hid (show (v4 &&& v5) ^^^ ((4294967295 - v4) &&& v6) = chN v4 v5 v6 from rfl)
      have HC2 := Lib.hid (show ((v0 &&& v1) ^^^ (v0 &&& v2)) ^^^ (v1 &&& v2) = majN v0 v1 v2 from rfl)
      rw [HC1.out] at A3
      rw [HC2.out] at A8
      have hch := chN_lt (f := v5) (g := v6) b4
      have hma := majN_lt (c := v2) b0 b1
      have hsg := S1N_lt b4
      have hs0 := S0N_lt b0
      obtain ⟨n4, hn4⟩ : ∃ n, n = 4294967295 - v4 := ⟨_, rfl⟩
      obtain ⟨y1, hy1⟩ : ∃ n, n = v4 &&& v5 := ⟨_, rfl⟩
      obtain ⟨y3, hy3⟩ : ∃ n, n = v0 &&& v1 := ⟨_, rfl⟩
      obtain ⟨y4, hy4⟩ : ∃ n, n = v0 &&& v2 := ⟨_, rfl⟩
      obtain ⟨y5, hy5⟩ : ∃ n, n = v1 &&& v2 := ⟨_, rfl⟩
      rw [← hn4] at A2 A3
      obtain ⟨y2, hy2⟩ : ∃ n, n = n4 &&& v6 := ⟨_, rfl⟩
      rw [← hy2] at A2 A3
      rw [← hy1] at A1 A3
      rw [← hy3] at A4 A7 A8
      rw [← hy4] at A5 A7 A8
      rw [← hy5] at A6 A8
      obtain ⟨y6, hy6⟩ : ∃ n, n = y3 ^^^ y4 := ⟨_, rfl⟩
      rw [← hy6] at A7 A8
      obtain ⟨ch, hchE⟩ : ∃ n, n = chN v4 v5 v6 := ⟨_, rfl⟩
      obtain ⟨ma, hmaE⟩ : ∃ n, n = majN v0 v1 v2 := ⟨_, rfl⟩
      obtain ⟨sg, hsgE⟩ : ∃ n, n = S1N v4 := ⟨_, rfl⟩
      obtain ⟨s0, hs0E⟩ : ∃ n, n = S0N v0 := ⟨_, rfl⟩
      rw [← hchE] at A3 hch
      rw [← hmaE] at A8 hma
      rw [← hsgE] at X2 hsg
      rw [← hs0E] at X4 hs0
      have HCH := Lib.hid hchE
      have HMA := Lib.hid hmaE
      have HSG := Lib.hid hsgE
      have HS0 := Lib.hid hs0E
      have A0 := not32 v4 b4
      rw [← hn4] at A0
      clear hr1 hr2 hr3 hr4 hr5 hr6 hz1 hz3 hn4 hy1 hy2 hy3 hy4 hy5 hy6 hchE hmaE hsgE hs0E SF
      go_wp2_with fail
      go_quiet (fail)
      go_wp2_with fail
      go_quiet ((go_at_call 158; first | with_reducible exact quiet2 (R1.out _) | with_reducible exact quiet2 (R2.out _) | with_reducible exact quiet2 (R3.out _)))
      go_wp2_with fail
      go_quiet ((go_at_call 158; first | with_reducible exact quiet2 (R4.out _) | with_reducible exact quiet2 (R5.out _) | with_reducible exact quiet2 (R6.out _)))
      go_wp2_with fail
      rename_i m1 m2 KX KH
      obtain ⟨w8, hw8⟩ : ∃ X, X = (wr.drewN (m1 + m2)).drewN nq := ⟨_, rfl⟩
      rw [← hw8]
      have K8 := Lib.hid (show Blk w8 p2 132 (u32a [v0, v1, v2, v3, v4, v5, v6, v7]) by
        rw [hw8, ← HVL.out, HV.out]; exact (HK2.out.drewN _).drewN _)
      have O8 := Lib.hid (show OnlyG p2 w5 w8 by rw [hw8]; exact (HO.out.drewN _).drewN _)
      clear hw8 x0 x1 x2 x3 x4 x5 x6 x7 ck cw
      obtain ⟨t1, ht1⟩ : ∃ n : Nat, n = (v7 + sg + ch + kk + ww) % 4294967296 := ⟨_, rfl⟩
      obtain ⟨t2, ht2⟩ : ∃ n : Nat, n = (s0 + ma) % 4294967296 := ⟨_, rfl⟩
      have E1 : ((v7 : Int) + (sg : Int) + (ch : Int) + (kk : Int) + (ww : Int)) % 4294967296 = (t1 : Int) := by rw [ht1, Int.natCast_emod, Int.natCast_add, Int.natCast_add, Int.natCast_add, Int.natCast_add]; rfl
      have E2 : ((s0 : Int) + (ma : Int)) % 4294967296 = (t2 : Int) := by rw [ht2, Int.natCast_emod, Int.natCast_add]; rfl
      have HE1' := Lib.hid ht1
      have HE2' := Lib.hid ht2
      rw [E1, E2]
      clear ht1 ht2 E1 E2
      refine wp_region_last [fun v _ => v = .slice (some ⟨p2, 1, none⟩) 7 7, fun v _ => v = .slice (some ⟨p2, 0, none⟩) 7 8, fun _ w' => Blk w' p2 132 (u32a [v0, v0, v1, v2, v3, v4, v5, v6]) ∧ OnlyG p2 w5 w']
        [false, false, true] 2 (by kernel_rfl) ?_ (by kernel_rfl) (by kernel_rfl) (by kernel_rfl) ?_ ?_
      · exact keeps_cons (fun _ _ _ h _ => h) (keeps_cons (fun _ _ _ h _ => h) (keeps_cons (fun v w1 w2 h hb => ⟨h.1.below hb h.1.lt, h.2.trans (OnlyG.of_below hb (Nat.le_of_lt h.1.lt))⟩) (keeps_nil)))
      · refine .cons (owed5_go ?_) (.cons (owed5_go ?_) (.cons (owed5_go ?_) (.nil)))
        · intro a wx hbx ho hf
          refine ⟨rfl, ?_⟩
          intro K hK
          have e0 : a.tmps[6]?.getD undef = .pointer (some ⟨p2, 0, none⟩) := ho 6 (by kernel_rfl)
          go_simp
          exact hK _ _ rfl (fun _ => Below.refl _ _)
        · intro a wx hbx ho hf
          refine ⟨rfl, ?_⟩
          intro K hK
          have e0 : a.tmps[6]?.getD undef = .pointer (some ⟨p2, 0, none⟩) := ho 6 (by kernel_rfl)
          go_simp
          exact hK _ _ rfl (fun _ => Below.refl _ _)
        · intro a wx hbx ho hf
          refine ⟨rfl, ?_⟩
          intro K hK
          have e0 : a.tmps[80]?.getD undef = .slice (some ⟨p2, 1, none⟩) 7 7 := hf.1
          have e1 : a.tmps[81]?.getD undef = .slice (some ⟨p2, 0, none⟩) 7 8 := hf.2.1
          have hB8 : Blk wx p2 132 (u32a [v0, v1, v2, v3, v4, v5, v6, v7]) := K8.out.below hbx K8.out.lt
          have hO8 : OnlyG p2 w5 wx := O8.out.trans (OnlyG.of_below hbx (Nat.le_of_lt K8.out.lt))
          refine wp_copy_row (.tmp 80) (.tmp 81) 144 144 rfl 131 p2 1 7 7 ⟨p2, 0, none⟩ 7 8 _ 132 (u32s [v0, v1, v2, v3, v4, v5, v6]) (evs e0) (evs e1) Try.underlying144 (by kernel_rfl) hB8 rfl ?_ (by rw [u32s_len, u32a_size]; exact Nat.le_refl 8) ?_ ?_
          · intro j v hv
            have hj : j < 7 := by
              rcases Nat.lt_or_ge j 7 with h | h
              · exact h
              · rw [List.getElem?_eq_none (by simp [u32s]; omega)] at hv; cases hv
            rw [Addr.add_lit, Nat.zero_add, hB8.cell j, ← hv]
            rcases (show j = 0 ∨ j = 1 ∨ j = 2 ∨ j = 3 ∨ j = 4 ∨ j = 5 ∨ j = 6 by omega) with rfl | rfl | rfl | rfl | rfl | rfl | rfl <;> rfl
          · intro v hv
            simp only [u32s, List.mem_map] at hv
            obtain ⟨n, _, rfl⟩ := hv
            rfl
          · exact hK _ _ ⟨setRow_heap wx p2 _ _ _ _ hB8, hO8.trans (OnlyG.setRow p2 _)⟩ (fun hne => absurd rfl hne)
      · rintro f w9 hfin
        have S9 : Blk w9 p2 132 (u32a [v0, v0, v1, v2, v3, v4, v5, v6]) ∧ OnlyG p2 w5 w9 := hfin.2.2.1
        clear hfin
        simp only [frameOf, dstsOf, zipF, List.filterMap_cons, List.filterMap_nil, List.contains_cons, List.contains_nil, Nat.reduceBEq, Nat.reduceAdd, Bool.or_false, Bool.or_true, cond_true, cond_false]
        have HS9 := Lib.hid S9
        have y4' : w9.cell? ⟨p2, 4, none⟩ = some (.int .u32 (v3 : Nat)) := S9.1.cell 4
        have y0' : w9.cell? ⟨p2, 0, none⟩ = some (.int .u32 (v0 : Nat)) := S9.1.cell 0
        have f4 := S9.1.frozen 4
        have f0 := S9.1.frozen 0
        clear S9
        go_wp2_with fail
        go_roundg (gk - 1)
        case measure => have := HT.out; omega
        case rel =>
          refine ⟨t + 1, by have := HT.out; omega, by go_num, ?_, (HS9.out.2.trans (OnlyG.setCell 4 _)).trans (OnlyG.setCell 0 _)⟩
          have c1 : ((v3 : Int) + (t1 : Int)) % 4294967296 = (((v3 + t1) % 4294967296 : Nat) : Int) := by rw [Int.natCast_emod, Int.natCast_add]; rfl
          have c2 : ((t1 : Int) + (t2 : Int)) % 4294967296 = (((t1 + t2) % 4294967296 : Nat) : Int) := by rw [Int.natCast_emod, Int.natCast_add]; rfl
          have hb := (HS9.out.1.set 4 (.int .u32 (((v3 + t1) % 4294967296 : Nat) : Int))).set 0 (.int .u32 (((t1 + t2) % 4294967296 : Nat) : Int))
          rw [u32a_set, u32a_set] at hb
          have hr : rndsN W S (t + 1) = ([v0, v0, v1, v2, v3, v4, v5, v6].set 4 ((v3 + t1) % 4294967296)).set 0 ((t1 + t2) % 4294967296) := by
            rw [rndsN, ← HV.out, HVL.out, ← HEK.out, ← HEW.out, HE1'.out, HE2'.out, HCH.out, HMA.out, HSG.out, HS0.out]
            show [_, _, _, _, _, _, _, _] = [_, _, _, _, _, _, _, _]
            congr 1
            · show (_ + _) % _ = _
              exact Nat.add_mod _ _ _
            · congr 1; congr 1; congr 1
              congr 1
              show (v3 + _) % _ = _
              rw [Nat.add_mod, Nat.add_mod v3 (_ % 4294967296), Nat.mod_mod]
              rfl
          rw [hr]
          first
          | exact hb
          | (rw [c1, c2]; exact hb)
    · obtain rfl : t = 64 := by omega
      have hX := rndsN_ok (W := W) HLN.out HSL.out 64
      have HADD := Lib.hid (show addP S (rndsN W S 64) 8 = stepN S B by rw [EW.out]; exact addP_all S B)
      obtain ⟨X, hXE⟩ : ∃ X, X = rndsN W S 64 := ⟨_, rfl⟩
      rw [hV] at k2
      rw [← hXE] at hX k2 HADD
      have HXO := Lib.hid hX
      have HP2 := Lib.hid k2
      have HGG := Lib.hid (show Blk wr g 132 (u32a (addP S X 0)) by rw [addP_zero X HLN.out]; exact MG.out.only2 ho q6)
      have HOW := Lib.hid (OnlyG.far (OnlyG.of_below MBB.out (Nat.le_of_lt hgl)) ho Q.out (by omega))
      clear ht k2 ho hX hXE HK2 hlt HV hV HO HT M0 M1 M2 MG MBB HWL HWN EW EWA ESA EKA
      go_wp2_with fail
      obtain ⟨g1, rfl⟩ : ∃ g1, g1 = gk := ⟨_, rfl⟩
      obtain ⟨w6, rfl⟩ : ∃ w6, w6 = wr := ⟨_, rfl⟩
      go_loopg [93] 8 (fun q iv wr => ∃ i : Nat, i + q = 8 ∧ iv = .int .i64 (i : Nat) ∧ Blk wr p2 132 (u32a X) ∧ Blk wr g 132 (u32a (addP S X i)) ∧ OnlyG g w6 wr)
      case atStart => exact ⟨0, rfl, rfl, HP2.out, HGG.out, OnlyG.of_below (Below.refl _ _) (Nat.le_of_lt HGG.out.lt)⟩
      case round =>
        obtain ⟨i, hi, rfl, k2, kg, ho⟩ := hrel
        have HI := Lib.hid hi
        have J2 := Lib.hid k2
        have JG := Lib.hid kg
        have HO := Lib.hid ho
        by_cases hlt : i < 8
        · have hlt' : decide ((i : Int) < 8) = true := by rw [decide_eq_true_iff]; omega
          have x1 : wr.cell? ⟨p2, i, none⟩ = some (.int .u32 ((X.getD i 0 : Nat) : Int)) := by rw [k2.cell i, u32a_get (by rw [HXO.out.1]; exact hlt)]
          have x2 : wr.cell? ⟨g, i, none⟩ = some (.int .u32 ((S.getD i 0 : Nat) : Int)) := by rw [kg.cell i, u32a_get (by rw [addP_len]; exact hlt), addP_get _ _ _ hlt, if_neg (by omega)]
          have f1 := kg.frozen i
          have b1 := getD_lt32 HXO.out.2 i
          have b2 := getD_lt32 HSL.out i
          obtain ⟨a, ha⟩ : ∃ a, a = X.getD i 0 := ⟨_, rfl⟩
          obtain ⟨b, hb⟩ : ∃ b, b = S.getD i 0 := ⟨_, rfl⟩
          rw [← ha] at x1 b1
          rw [← hb] at x2 b2
          have HST := Lib.hid (addP_step S X hlt)
          have HA := Lib.hid ha
          have HB' := Lib.hid hb
          clear ha hb hi k2 kg ho
          go_wp2_with fail
          go_region
          go_wp2_with fail
          go_roundg (gk - 1)
          case measure => have := HI.out; omega
          case rel =>
            refine ⟨i + 1, by have := HI.out; omega, by go_num, ?_, ?_, ?_⟩
            · exact (J2.out.far (p := ⟨g, i, none⟩) (fun e => q6 e.symm) _).drewN 1
            · have c1 : ((b : Int) + (a : Int)) % 4294967296 = (((S.getD i 0 + X.getD i 0) % 4294967296 : Nat) : Int) := by rw [← HA.out, ← HB'.out, Int.natCast_emod, Int.natCast_add]; rfl
              rw [c1, ← HST.out, ← u32a_set]
              exact (JG.out.set i _).drewN 1
            · exact (HO.out.trans (OnlyG.setCell i _)).drewN 1
        · obtain rfl : i = 8 := by omega
          rw [HADD.out] at kg
          have HKG := Lib.hid kg
          clear hi k2 kg ho
          go_wp2_with fail
          go_end0
          exact ⟨rfl, HKG.out, HOW.out.trans HO.out⟩
end Go.Proofs.Ytohldijomcljkaa
