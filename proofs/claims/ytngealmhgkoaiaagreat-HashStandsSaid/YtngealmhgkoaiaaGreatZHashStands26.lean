/- Walks: sha.step. -/
import Derived.Test.YtngealmhgkoaiaaGreatZHashStands24
import Derived.Test.YtngealmhgkoaiaaGreatZHashStands25
import Derived.Deep.QuietTactic
import Derived.BigQuiet
import Derived.Test.YtngealmhgkoaiaaGreatZHashStands20
import Derived.Test.YtngealmhgkoaiaaGreatZHashStands07
import Derived.Deep.MidRow
import Derived.Test.YtngealmhgkoaiaaGreatZHashStands15
import Derived.Test.YtngealmhgkoaiaaGreatZHashStands00
import Derived.Test.YtngealmhgkoaiaaGreatZHashStands05
import Derived.Test.YtngealmhgkoaiaaGreatZHashStands04
import Derived.Test.YtngealmhgkoaiaaGreatZHashStands02
import Derived.Test.YtngealmhgkoaiaaGreatZHashStands06
import Derived.Test.YtngealmhgkoaiaaGreatZHashStands08
namespace Go.Proofs.YtngealmhgkoaiaaGreat
open Go.RowKit ShaM
set_option linter.unusedVariables false
theorem ext_getD {A B : List Nat} (hl : A.length = B.length) (h : ∀ j, j < A.length → A.getD j 0 = B.getD j 0) : A = B := by
 apply List.ext_getElem hl
 intro i h1 h2
 have := h i h1
 simpa [List.getD_eq_getElem?_getD, List.getElem?_eq_getElem h1, List.getElem?_eq_getElem h2] using this
/-- a callee that draws nothing, in a quiet region behind another one -/
theorem quiet2 {P : Program} {f : FuncId} {args : Array Value} {w : World} {a n : Nat} {v : Value}
  (h : Calls P f args (w.drewN (a + n)) fun e w' => e = .returned v ∧ w' = w.drewN (a + n)) : Calls P f args (w.drewN (a + n)) fun e w'' => e = .returned v ∧ ∃ m, w'' = w.drewN (a + m) :=
 h.mono fun _ _ ⟨he, hm⟩ => ⟨he, n, hm⟩
/-- one block alone may be another -/
def OnlyG (g : Nat) (w w' : World) : Prop := Below g w w' ∧ w.heap.size ≤ w'.heap.size ∧ ∀ i, i < w.heap.size → i ≠ g → w'.heap[i]? = w.heap[i]?
theorem OnlyG.of_below {g : Nat} {w w' : World} (h : Below w.heap.size w w') (hg : g ≤ w.heap.size) : OnlyG g w w' := ⟨h.mono hg, h.size, fun i hi _ => h.block i hi⟩
theorem OnlyG.trans {g : Nat} {a b c : World} (h : OnlyG g a b) (k : OnlyG g b c) : OnlyG g a c := ⟨h.1.trans k.1, Nat.le_trans h.2.1 k.2.1, fun i hi hne => (k.2.2 i (Nat.lt_of_lt_of_le hi h.2.1) hne).trans (h.2.2 i hi hne)⟩
theorem OnlyG.setCell {g : Nat} {w : World} (i : Nat) (u : Value) : OnlyG g w (w.setCell ⟨g, i, none⟩ u) := ⟨(Below.refl _ _).setCell (p := ⟨g, i, none⟩) (Nat.le_refl _) u, by simp, fun k hk hne => Below.heap_setCell w ⟨g, i, none⟩ u k (fun e => hne e)⟩
theorem Blk.only2 {w w' : World} {g b : Nat} {t : TypeId} {cs : Array Value} (h : Blk w b t cs) (ho : OnlyG g w w') (hne : b ≠ g) : Blk w' b t cs := (ho.2.2 b h.lt hne).trans h
theorem OnlyG.setRow {w : World} (g : Nat) (cs : Array Value) : OnlyG g w (w.setRow g cs) := ⟨⟨rfl, rfl, rfl, by simp, fun i hi => setRow_other w g i cs (by omega)⟩, by simp, fun i _ hne => setRow_other w g i cs hne⟩
theorem OnlyG.drewN {g : Nat} {a b : World} (h : OnlyG g a b) (n : Nat) : OnlyG g a (b.drewN n) := ⟨below_drewN' h.1 n, h.2.1, h.2.2⟩
theorem evs {a : Act} {s : Nat} {v : Value} (h : a.tmps[s]?.getD undef = v) : a.eval (.tmp s) = v := by
 first
 | exact h
 | simpa [Act.eval, Array.getD_eq_getD_getElem?] using h
theorem wp_copy_row {P : Program} {w : World} {o : Oper} {a : Act} {K : Act → World → Prop} {Q : Exit → Act → World → Prop} (d s : Operand) (dT sT : TypeId)
  (ho : o.op = .call { callee := .builtin .copy, args := #[d, s], argTypes := #[dT, sT] }) (elem : TypeId) (g o' dLen dCap : Nat) (ad : Addr) (sLen sCap : Nat) (cur : Array Value) (t : TypeId) (cs : List Value)
  (hd : a.eval d = .slice (some ⟨g, o', none⟩) dLen dCap) (hs : a.eval s = .slice (some ad) sLen sCap) (hu : P.underlying dT = some (.slice elem)) (hsz : (P.info? elem).map (·.size) = some 1)
  (hg : w.heap[g]? = some (.cells cur t (0, 0))) (hn : cs.length = Nat.min sLen dLen) (hsrc : ∀ j v, cs[j]? = some v → w.cell? (ad.add j) = some v) (hfit : o' + cs.length ≤ cur.size) (h1 : ∀ v ∈ cs, v.oneCell' = true)
  (h : K (a.put o.dst (goInt cs.length)) (w.setRow g (cur.toList.take o' ++ cs ++ cur.toList.drop (o' + cs.length)).toArray)) : o.wp P a w K Q := by
 have hr := run_copy_row (P := P) w dT sT o.type elem g o' dLen dCap ad sLen sCap cur t cs hu hsz hg hn hsrc hfit h1
 unfold Oper.wp execOp
 simp only [ho, resolve, invoke, builtin, Sem.run_bind, Sem.run_pure, Result.andThen_ok, List.map_toArray, List.map_cons, List.map_nil, hd, hs, hr]
 exact h
theorem not32 (x : Nat) (hx : x < 4294967296) : bits .xor .u32 IntKind.u32.max (x : Int) = ((4294967295 - x : Nat) : Int) := by
 have e : IntKind.u32.max = ((4294967295 : Nat) : Int) := rfl
 have h : 4294967295 ^^^ x = 4294967295 - x := by
  apply Nat.eq_of_testBit_eq
  intro i
  by_cases hi : i < 32
  ·rw [not_bit hx hi, Nat.testBit_xor, show (4294967295 : Nat) = 2 ^ 32 - 1 from rfl, Nat.testBit_two_pow_sub_one, decide_eq_true hi, Bool.true_xor]
  ·have h1 : (4294967295 - x).testBit i = false := Nat.testBit_lt_two_pow (Nat.lt_of_lt_of_le (show 4294967295 - x < 2 ^ 32 by omega) (Nat.pow_le_pow_right (by omega) (by omega)))
   have h2 : x.testBit i = false := Nat.testBit_lt_two_pow (Nat.lt_of_lt_of_le (show x < 2 ^ 32 by omega) (Nat.pow_le_pow_right (by omega) (by omega)))
   rw [h1, Nat.testBit_xor, h2, show (4294967295 : Nat) = 2 ^ 32 - 1 from rfl, Nat.testBit_two_pow_sub_one, decide_eq_false hi]; rfl
 rw [e, xor32 _ _ (by omega) hx, h]
theorem OnlyG.far {g p : Nat} {w a b : World} (h : OnlyG g w a) (k : OnlyG p a b) (hp : w.heap.size ≤ p) (hg : g ≤ p) : OnlyG g w b := ⟨h.1.trans (k.1.mono hg), Nat.le_trans h.2.1 k.2.1, fun i hi hne => (k.2.2 i (Nat.lt_of_lt_of_le hi h.2.1) (by omega)).trans (h.2.2 i hi hne)⟩
/-- the first i sums -/
def addP (S X : List Nat) (i : Nat) : List Nat := (List.range 8).map fun j => if j < i then (S.getD j 0 + X.getD j 0) % 4294967296 else S.getD j 0
theorem addP_len (S X : List Nat) (i : Nat) : (addP S X i).length = 8 := by simp [addP]
theorem addP_get (S X : List Nat) (i : Nat) {j : Nat} (h : j < 8) : (addP S X i).getD j 0 = if j < i then (S.getD j 0 + X.getD j 0) % 4294967296 else S.getD j 0 := by simp [addP, List.getD_eq_getElem?_getD, h]
theorem addP_zero {S : List Nat} (X : List Nat) (hl : S.length = 8) : addP S X 0 = S := by
 refine ext_getD (by rw [addP_len, hl]) fun j hj => ?_
 rw [addP_len] at hj
 rw [addP_get _ _ _ hj, if_neg (by omega)]
theorem addP_step (S X : List Nat) {i : Nat} (h : i < 8) : (addP S X i).set i ((S.getD i 0 + X.getD i 0) % 4294967296) = addP S X (i + 1) := by
 refine ext_getD (by rw [List.length_set, addP_len, addP_len]) fun j hj => ?_
 rw [List.length_set, addP_len] at hj
 rw [addP_get _ _ _ hj, List.getD_eq_getElem?_getD, List.getElem?_set]
 by_cases e : i = j
 ·subst e
  rw [if_pos rfl, if_pos (by rw [addP_len]; exact hj), if_pos (by omega)]; rfl
 ·rw [if_neg e, ← List.getD_eq_getElem?_getD, addP_get _ _ _ hj]
  by_cases h1 : j < i
  ·rw [if_pos h1, if_pos (by omega)]
  ·rw [if_neg h1, if_neg (by omega)]
theorem addP_all (S B : List Nat) : addP S (rndsN (wL B 64) S 64) 8 = stepN S B := by
 unfold addP stepN
 refine List.map_congr_left fun j hj => ?_
 rw [if_pos (List.mem_range.1 hj)]
set_option maxRecDepth 100000 in
set_option maxHeartbeats 8000000 in
theorem step_any (g : Nat) (v : Value) (S B : List Nat) (w : World) (hg : Blk w g 237 (u32a S)) (hS : ∀ x ∈ S, x < 4294967296) (hl : S.length = 8) (h : Rd w v (bvs B)) (hB : ∀ x ∈ B, x < 256) (hlb : B.length = 64) :
  Calls Tryz.prog 256 #[.pointer (some ⟨g, 0, none⟩), v] w fun e w' => e = .returned (.tuple #[]) ∧ Blk w' g 237 (u32a (stepN S B)) ∧ OnlyG g w w' := by
 have hz : ∀ w, (zeroValue 253).run Tryz.prog w = .ok (.agg Z64) w := fun _ => by kernel_rfl
 have hz8 : ∀ w, (zeroValue 237).run Tryz.prog w = .ok (.agg Z8a) w := fun _ => by kernel_rfl
 have WD := words_any v B w h hB hlb
 have CN := fun (W : World) => consts_any W
 have hwl := wL_lt hB 64
 have hwn := wL_len B 64
 obtain ⟨W, hW⟩ : ∃ W, W = wL B 64 := ⟨_, rfl⟩
 rw [← hW] at WD hwl hwn
 obtain ⟨WA, hWA⟩ : ∃ A, A = u32a W := ⟨_, rfl⟩
 obtain ⟨SA, hSA⟩ : ∃ A, A = u32a S := ⟨_, rfl⟩
 obtain ⟨KA, hKA⟩ : ∃ A, A = KLa := ⟨_, rfl⟩
 rw [← hWA] at WD
 rw [← hSA] at hg
 simp only [← hKA] at CN
 have IW := Lib.hid (show (Tryz.prog.info? 253).map (·.size) = some WA.size by rw [hWA]; exact info64 W hwn)
 have IK := Lib.hid (show (Tryz.prog.info? 253).map (·.size) = some KA.size by rw [hKA, KLa]; exact info64 KL rfl)
 have IS := Lib.hid (show (Tryz.prog.info? 237).map (·.size) = some SA.size by rw [hSA]; exact info8 S hl)
 have ZW := Lib.hid (show Z64.size = WA.size by rw [hWA]; unfold Z64; rw [u32a_size, u32a_size, hwn]; rfl)
 have ZK := Lib.hid (show Z64.size = KA.size by rw [hKA]; unfold Z64 KLa; rw [u32a_size, u32a_size]; rfl)
 have ZS := Lib.hid (show Z8a.size = SA.size by rw [hSA]; unfold Z8a; rw [u32a_size, u32a_size, hl]; rfl)
 have OW := Lib.hid (show WA.toList.all (·.oneCell') = true by rw [hWA, Array.all_toList]; exact u32a_one W)
 have OK := Lib.hid (show KA.toList.all (·.oneCell') = true by rw [hKA, Array.all_toList]; exact u32a_one KL)
 have OS := Lib.hid (show SA.toList.all (·.oneCell') = true by rw [hSA, Array.all_toList]; exact u32a_one S)
 have HWD := Lib.hid WD
 have HCN := Lib.hid CN
 have HG := Lib.hid hg
 have EW := Lib.hid hW
 have EWA := Lib.hid hWA
 have ESA := Lib.hid hSA
 have EKA := Lib.hid hKA
 have HSL := Lib.hid hS
 have HLN := Lib.hid hl
 have HWL := Lib.hid hwl
 have HWN := Lib.hid hwn
 have hv : ∃ a b c, v = .slice a b c := by obtain ⟨a, c, e, _⟩ := h; exact ⟨a, _, c, e⟩
 obtain ⟨a1, a2, a3, rfl⟩ := hv
 clear WD CN hwl hwn hW hWA hSA hKA h hB hlb hg hS hl
 go_enter Tryz.func256, Tryz.ntmps256
 go_wp2_with fail
 refine (HWD.out).mono ?_
 rintro e w1 ⟨rfl, hb1⟩
 go_wp2_with fail
 refine (HCN.out w1).mono ?_
 rintro e w2 ⟨rfl, hb2⟩
 have HB2 := Lib.hid (hb1.trans (hb2.mono hb1.size))
 clear hb1 hb2
 have hgl : g < w.heap.size := HG.out.lt
 have hw2 : w.heap.size ≤ w2.heap.size := HB2.out.size
 have K0 := Lib.hid (show Blk ((w2.alloc (.cells Z64 253)).alloc (.cells Z64 253)) w2.heap.size 253 Z64 from (Blk.new w2 _ _).alloc _)
 have K1 := Lib.hid (show Blk ((w2.alloc (.cells Z64 253)).alloc (.cells Z64 253)) (w2.heap.size + 1) 253 Z64 by have := Blk.new (w2.alloc (.cells Z64 253)) 253 Z64; simpa using this)
 have KB := Lib.hid (show Below w.heap.size w ((w2.alloc (.cells Z64 253)).alloc (.cells Z64 253)) from (HB2.out.alloc hw2 _).alloc (by simp; omega) _)
 go_wp2_with (refine wpList_store_blk rfl 253 (.tmp 4) (.tmp 14) rfl w2.heap.size WA rfl rfl 253 Z64 K0.out IW.out ZW.out OW.out ?_)
 intro w3 m0 mb mo msz
 have J0 := Lib.hid m0
 have J1 := Lib.hid ((mo (w2.heap.size + 1) (by omega)).trans K1.out : Blk w3 (w2.heap.size + 1) 253 Z64)
 have JB := Lib.hid (KB.out.trans ((mb w2.heap.size (Nat.le_refl _)).mono hw2))
 have hs3 : w3.heap.size = w2.heap.size + 2 := by omega
 clear m0 mb mo msz K0 K1 KB
 go_wp2_with (refine wpList_store_blk rfl 253 (.tmp 5) (.tmp 15) rfl (w2.heap.size + 1) KA rfl rfl 253 Z64 J1.out IK.out ZK.out OK.out ?_)
 intro w4 m0 mb mo msz
 have L1 := Lib.hid m0
 have L0 := Lib.hid ((mo w2.heap.size (by omega)).trans J0.out : Blk w4 w2.heap.size 253 WA)
 have LB := Lib.hid (JB.out.trans ((mb (w2.heap.size + 1) (Nat.le_refl _)).mono (by omega)))
 have hs4 : w4.heap.size = w2.heap.size + 2 := by omega
 have LG := Lib.hid (HG.out.below LB.out hgl)
 obtain ⟨p0, hp0⟩ : ∃ p, p = w2.heap.size := ⟨_, rfl⟩
 obtain ⟨p1, hp1⟩ : ∃ p, p = w2.heap.size + 1 := ⟨_, rfl⟩
 obtain ⟨p2, hp2⟩ : ∃ p, p = w2.heap.size + 2 := ⟨_, rfl⟩
 rw [← hp0] at L0
 rw [← hp1] at L1
 have N2 := Lib.hid (show Blk (w4.alloc (.cells Z8a 237)) p2 237 Z8a by rw [hp2, ← hs4]; exact Blk.new w4 _ _)
 have NB := Lib.hid (LB.out.alloc (by omega) (.cells Z8a 237))
 have q0 : p0 < p2 := by omega
 have q1 : p1 < p2 := by omega
 have q2 : g < p0 := by omega
 have q3 : p0 ≠ p1 := by omega
 have Q := Lib.hid (show w.heap.size ≤ p2 by omega)
 have HP0 := Lib.hid hp0
 have HP1 := Lib.hid hp1
 have HP2 := Lib.hid hp2
 rw [← hp1, ← hp0]
 clear m0 mb mo msz J0 J1 JB hs3 hw2
 clear hp0 hp1
 go_wp2_with (first | (refine wpList_load_row rfl 237 (.tmp 17) rfl g rfl 237 SA (0, 0) _ LG.out Tryz.underlying237 rfl IS.out ?_) | (refine wpList_store_blk rfl 237 (.tmp 6) (.tmp 18) rfl (w2.heap.size + 2) SA rfl rfl 237 Z8a (by rw [← HP2.out]; exact N2.out) IS.out ZS.out OS.out ?_))
 intro w5 m0 mb mo msz
 rw [← HP2.out] at m0 mb mo
 rw [← HP2.out]
 have M2 := Lib.hid (show Blk w5 p2 237 (u32a (rndsN W S 0)) by rw [rndsN, ← ESA.out]; exact m0)
 have MB := mb p2 (Nat.le_refl _)
 have hs5 : p2 < w5.heap.size := m0.lt
 have L0' := ((show Blk w4 p0 253 WA from L0.out).alloc (.cells Z8a 237)).below MB q0
 have L1' := ((show Blk w4 p1 253 KA from L1.out).alloc (.cells Z8a 237)).below MB q1
 have LG' := ((show Blk w4 g 237 SA from LG.out).alloc (.cells Z8a 237)).below MB (by omega)
 rw [EWA.out] at L0'
 rw [EKA.out, KLa] at L1'
 rw [ESA.out] at LG'
 have M0 := Lib.hid L0'
 have M1 := Lib.hid L1'
 have MG := Lib.hid LG'
 have MBB := Lib.hid (NB.out.trans (MB.mono Q.out))
 clear m0 mb mo msz MB L0' L1' LG' L0 L1 LG N2 NB LB
 have q4 : p0 ≠ p2 := by omega
 have q5 : p1 ≠ p2 := by omega
 have q6 : g ≠ p2 := by omega
 clear hs4 hp2 HP0 HP1 HP2 HB2 HWD HCN HG IW IK IS ZW ZK ZS OW OK OS
 go_wp2_with fail
 go_loopg [19] 64 (fun q iv wr => ∃ t : Nat, t + q = 64 ∧ iv = .int .i64 (t : Nat) ∧ Blk wr p2 237 (u32a (rndsN W S t)) ∧ OnlyG p2 w5 wr)
 case atStart => exact ⟨0, rfl, rfl, M2.out, OnlyG.of_below (Below.refl _ _) (by omega)⟩
 case round =>
  obtain ⟨t, ht, rfl, k2, ho⟩ := hrel
  have HT := Lib.hid ht
  have HK2 := Lib.hid k2
  have HO := Lib.hid ho
  obtain ⟨V, hV⟩ : ∃ V, V = rndsN W S t := ⟨_, rfl⟩
  have hvo := rndsN_ok (W := W) HLN.out HSL.out t
  rw [← hV] at hvo k2
  have HV := Lib.hid hV
  by_cases hlt : t < 64
  ·have hlt' : decide ((t : Int) < 64) = true := by rw [decide_eq_true_iff]; omega
   have XC := fun (i : Nat) (hi : i < 8) => (show wr.cell? ⟨p2, i, none⟩ = some (.int .u32 ((V.getD i 0 : Nat) : Int)) by rw [k2.cell i, u32a_get (by rw [hvo.1]; exact hi)])
   have XL := fun (i : Nat) => getD_lt32 hvo.2 i
   have ck := (show wr.cell? ⟨p1, t, none⟩ = some (.int .u32 ((KL.getD t 0 : Nat) : Int)) by rw [(M1.out.only2 ho q5).cell t, u32a_get (by rw [KL_len]; exact hlt)])
   have cw := (show wr.cell? ⟨p0, t, none⟩ = some (.int .u32 ((W.getD t 0 : Nat) : Int)) by rw [(M0.out.only2 ho q4).cell t, u32a_get (by rw [HWN.out]; exact hlt)])
   have hkl := getD_lt32 KL_lt t
   have hwl := getD_lt32 HWL.out t
   have x0 := XC 0 (by omega)
   have x1 := XC 1 (by omega)
   have x2 := XC 2 (by omega)
   have x3 := XC 3 (by omega)
   have x4 := XC 4 (by omega)
   have x5 := XC 5 (by omega)
   have x6 := XC 6 (by omega)
   have x7 := XC 7 (by omega)
   have b0 := XL 0
   have b1 := XL 1
   have b2 := XL 2
   have b3 := XL 3
   have b4 := XL 4
   have b5 := XL 5
   have b6 := XL 6
   have b7 := XL 7
   obtain ⟨v0, e0⟩ : ∃ v, v = V.getD 0 0 := ⟨_, rfl⟩
   obtain ⟨v1, e1⟩ : ∃ v, v = V.getD 1 0 := ⟨_, rfl⟩
   obtain ⟨v2, e2⟩ : ∃ v, v = V.getD 2 0 := ⟨_, rfl⟩
   obtain ⟨v3, e3⟩ : ∃ v, v = V.getD 3 0 := ⟨_, rfl⟩
   obtain ⟨v4, e4⟩ : ∃ v, v = V.getD 4 0 := ⟨_, rfl⟩
   obtain ⟨v5, e5⟩ : ∃ v, v = V.getD 5 0 := ⟨_, rfl⟩
   obtain ⟨v6, e6⟩ : ∃ v, v = V.getD 6 0 := ⟨_, rfl⟩
   obtain ⟨v7, e7⟩ : ∃ v, v = V.getD 7 0 := ⟨_, rfl⟩
   obtain ⟨kk, ekk⟩ : ∃ v, v = KL.getD t 0 := ⟨_, rfl⟩
   obtain ⟨ww, eww⟩ : ∃ v, v = W.getD t 0 := ⟨_, rfl⟩
   rw [← e0] at x0 b0
   rw [← e1] at x1 b1
   rw [← e2] at x2 b2
   rw [← e3] at x3 b3
   rw [← e4] at x4 b4
   rw [← e5] at x5 b5
   rw [← e6] at x6 b6
   rw [← e7] at x7 b7
   rw [← ekk] at ck hkl
   rw [← eww] at cw hwl
   have HVL := Lib.hid (show V = [v0, v1, v2, v3, v4, v5, v6, v7] from by
    refine ext_getD (by rw [hvo.1]; rfl) fun j hj => ?_
    rw [hvo.1] at hj
    rcases (show j = 0 ∨ j = 1 ∨ j = 2 ∨ j = 3 ∨ j = 4 ∨ j = 5 ∨ j = 6 ∨ j = 7 by omega) with rfl | rfl | rfl | rfl | rfl | rfl | rfl | rfl
    ·exact e0.symm
    ·exact e1.symm
    ·exact e2.symm
    ·exact e3.symm
    ·exact e4.symm
    ·exact e5.symm
    ·exact e6.symm
    ·exact e7.symm)
   have HEK := Lib.hid ekk
   have HEW := Lib.hid eww
   clear e0 e1 e2 e3 e4 e5 e6 e7 ekk eww XC XL hvo hV k2 ho ht
   obtain ⟨r1, hr1⟩ : ∃ r, r = rot v4 6 := ⟨_, rfl⟩
   obtain ⟨r2, hr2⟩ : ∃ r, r = rot v4 11 := ⟨_, rfl⟩
   obtain ⟨r3, hr3⟩ : ∃ r, r = rot v4 25 := ⟨_, rfl⟩
   obtain ⟨r4, hr4⟩ : ∃ r, r = rot v0 2 := ⟨_, rfl⟩
   obtain ⟨r5, hr5⟩ : ∃ r, r = rot v0 13 := ⟨_, rfl⟩
   obtain ⟨r6, hr6⟩ : ∃ r, r = rot v0 22 := ⟨_, rfl⟩
   have SF := fun (x n r : Nat) (z : Int) (hz : z = (n : Int)) (hx : x < 4294967296) (h1 : 1 ≤ n) (h2 : n ≤ 31) (hr : r = rot x n) (W' : World) => (show Calls Tryz.prog 272 #[.int .u32 (x : Nat), .int .i64 z] W' fun e w' => e = .returned (.int .u32 (r : Nat)) ∧ w' = W' by rw [hz, hr]; exact sright_any x n hx h1 h2 W')
   have R1 := Lib.hid (SF v4 6 r1 6 rfl b4 (by omega) (by omega) hr1)
   have R2 := Lib.hid (SF v4 11 r2 11 rfl b4 (by omega) (by omega) hr2)
   have R3 := Lib.hid (SF v4 25 r3 25 rfl b4 (by omega) (by omega) hr3)
   have R4 := Lib.hid (SF v0 2 r4 2 rfl b0 (by omega) (by omega) hr4)
   have R5 := Lib.hid (SF v0 13 r5 13 rfl b0 (by omega) (by omega) hr5)
   have R6 := Lib.hid (SF v0 22 r6 22 rfl b0 (by omega) (by omega) hr6)
   have d1 : r1 < 4294967296 := by rw [hr1]; exact rot_lt b4 (by omega)
   have d2 : r2 < 4294967296 := by rw [hr2]; exact rot_lt b4 (by omega)
   have d3 : r3 < 4294967296 := by rw [hr3]; exact rot_lt b4 (by omega)
   have d4 : r4 < 4294967296 := by rw [hr4]; exact rot_lt b0 (by omega)
   have d5 : r5 < 4294967296 := by rw [hr5]; exact rot_lt b0 (by omega)
   have d6 : r6 < 4294967296 := by rw [hr6]; exact rot_lt b0 (by omega)
   have X1 := xor32 r1 r2 d1 d2
   have X2 := xor32 (r1 ^^^ r2) r3 (xor_lt32 d1 d2) d3
   have X3 := xor32 r4 r5 d4 d5
   have X4 := xor32 (r4 ^^^ r5) r6 (xor_lt32 d4 d5) d6
   obtain ⟨z1, hz1⟩ : ∃ z, z = r1 ^^^ r2 := ⟨_, rfl⟩
   obtain ⟨z3, hz3⟩ : ∃ z, z = r4 ^^^ r5 := ⟨_, rfl⟩
   rw [← hz1] at X1 X2
   rw [← hz3] at X3 X4
   have HE1 := Lib.hid (show z1 ^^^ r3 = S1N v4 by rw [hz1, hr1, hr2, hr3]; rfl)
   have HE2 := Lib.hid (show z3 ^^^ r6 = S0N v0 by rw [hz3, hr4, hr5, hr6]; rfl)
   rw [HE1.out] at X2
   rw [HE2.out] at X4
   have A1 := and32 v4 v5 b4 b5
   have A2 := and32 (4294967295 - v4) v6 (by omega) b6
   have A3 := xor32 (v4 &&& v5) ((4294967295 - v4) &&& v6) (and_lt32 b4) (and_lt32 (by omega))
   have A4 := and32 v0 v1 b0 b1
   have A5 := and32 v0 v2 b0 b2
   have A6 := and32 v1 v2 b1 b2
   have A7 := xor32 (v0 &&& v1) (v0 &&& v2) (and_lt32 b0) (and_lt32 b0)
   have A8 := xor32 ((v0 &&& v1) ^^^ (v0 &&& v2)) (v1 &&& v2) (xor_lt32 (and_lt32 b0) (and_lt32 b0)) (and_lt32 b1)
   have HC1 := Lib.hid (show (v4 &&& v5) ^^^ ((4294967295 - v4) &&& v6) = chN v4 v5 v6 from rfl)
   have HC2 := Lib.hid (show ((v0 &&& v1) ^^^ (v0 &&& v2)) ^^^ (v1 &&& v2) = majN v0 v1 v2 from rfl)
   rw [HC1.out] at A3
   rw [HC2.out] at A8
   have hch := chN_lt (f := v5) (g := v6) b4
   have hma := majN_lt (c := v2) b0 b1
   have hsg := S1N_lt b4
   have hs0 := S0N_lt b0
   obtain ⟨n4, hn4⟩ : ∃ n, n = 4294967295 - v4 := ⟨_, rfl⟩
   obtain ⟨y1, hy1⟩ : ∃ n, n = v4 &&& v5 := ⟨_, rfl⟩
   obtain ⟨y3, hy3⟩ : ∃ n, n = v0 &&& v1 := ⟨_, rfl⟩
   obtain ⟨y4, hy4⟩ : ∃ n, n = v0 &&& v2 := ⟨_, rfl⟩
   obtain ⟨y5, hy5⟩ : ∃ n, n = v1 &&& v2 := ⟨_, rfl⟩
   rw [← hn4] at A2 A3
   obtain ⟨y2, hy2⟩ : ∃ n, n = n4 &&& v6 := ⟨_, rfl⟩
   rw [← hy2] at A2 A3
   rw [← hy1] at A1 A3
   rw [← hy3] at A4 A7 A8
   rw [← hy4] at A5 A7 A8
   rw [← hy5] at A6 A8
   obtain ⟨y6, hy6⟩ : ∃ n, n = y3 ^^^ y4 := ⟨_, rfl⟩
   rw [← hy6] at A7 A8
   obtain ⟨ch, hchE⟩ : ∃ n, n = chN v4 v5 v6 := ⟨_, rfl⟩
   obtain ⟨ma, hmaE⟩ : ∃ n, n = majN v0 v1 v2 := ⟨_, rfl⟩
   obtain ⟨sg, hsgE⟩ : ∃ n, n = S1N v4 := ⟨_, rfl⟩
   obtain ⟨s0, hs0E⟩ : ∃ n, n = S0N v0 := ⟨_, rfl⟩
   rw [← hchE] at A3 hch
   rw [← hmaE] at A8 hma
   rw [← hsgE] at X2 hsg
   rw [← hs0E] at X4 hs0
   have HCH := Lib.hid hchE
   have HMA := Lib.hid hmaE
   have HSG := Lib.hid hsgE
   have HS0 := Lib.hid hs0E
   have A0 := not32 v4 b4
   rw [← hn4] at A0
   clear hr1 hr2 hr3 hr4 hr5 hr6 hz1 hz3 hn4 hy1 hy2 hy3 hy4 hy5 hy6 hchE hmaE hsgE hs0E SF
   go_wp2_with fail
   go_quiet (fail)
   go_wp2_with fail
   go_quiet ((go_at_call 272; first | with_reducible exact quiet2 (R1.out _) | with_reducible exact quiet2 (R2.out _) | with_reducible exact quiet2 (R3.out _)))
   go_wp2_with fail
   go_quiet ((go_at_call 272; first | with_reducible exact quiet2 (R4.out _) | with_reducible exact quiet2 (R5.out _) | with_reducible exact quiet2 (R6.out _)))
   go_wp2_with fail
   rename_i m1 m2 KX KH
   obtain ⟨w8, hw8⟩ : ∃ X, X = (wr.drewN (m1 + m2)).drewN nq := ⟨_, rfl⟩
   rw [← hw8]
   have K8 := Lib.hid (show Blk w8 p2 237 (u32a [v0, v1, v2, v3, v4, v5, v6, v7]) by
    rw [hw8, ← HVL.out, HV.out]; exact (HK2.out.drewN _).drewN _)
   have O8 := Lib.hid (show OnlyG p2 w5 w8 by rw [hw8]; exact (HO.out.drewN _).drewN _)
   clear hw8 x0 x1 x2 x3 x4 x5 x6 x7 ck cw
   obtain ⟨t1, ht1⟩ : ∃ n : Nat, n = (v7 + sg + ch + kk + ww) % 4294967296 := ⟨_, rfl⟩
   obtain ⟨t2, ht2⟩ : ∃ n : Nat, n = (s0 + ma) % 4294967296 := ⟨_, rfl⟩
   have E1 : ((v7 : Int) + (sg : Int) + (ch : Int) + (kk : Int) + (ww : Int)) % 4294967296 = (t1 : Int) := by rw [ht1, Int.natCast_emod, Int.natCast_add, Int.natCast_add, Int.natCast_add, Int.natCast_add]; rfl
   have E2 : ((s0 : Int) + (ma : Int)) % 4294967296 = (t2 : Int) := by rw [ht2, Int.natCast_emod, Int.natCast_add]; rfl
   have HE1' := Lib.hid ht1
   have HE2' := Lib.hid ht2
   rw [E1, E2]
   clear ht1 ht2 E1 E2
   refine wp_region_last [fun v _ => v = .slice (some ⟨p2, 1, none⟩) 7 7, fun v _ => v = .slice (some ⟨p2, 0, none⟩) 7 8, fun _ w' => Blk w' p2 237 (u32a [v0, v0, v1, v2, v3, v4, v5, v6]) ∧ OnlyG p2 w5 w']
    [false, false, true] 2 (by kernel_rfl) ?_ (by kernel_rfl) (by kernel_rfl) (by kernel_rfl) ?_ ?_
   ·exact keeps_cons (fun _ _ _ h _ => h) (keeps_cons (fun _ _ _ h _ => h) (keeps_cons (fun v w1 w2 h hb => ⟨h.1.below hb h.1.lt, h.2.trans (OnlyG.of_below hb (Nat.le_of_lt h.1.lt))⟩) (keeps_nil)))
   ·refine .cons (owed5_go ?_) (.cons (owed5_go ?_) (.cons (owed5_go ?_) (.nil)))
    ·intro a wx hbx ho hf
     refine ⟨rfl, ?_⟩
     intro K hK
     have e0 : a.tmps[6]?.getD undef = .pointer (some ⟨p2, 0, none⟩) := ho 6 (by kernel_rfl)
     go_simp
     exact hK _ _ rfl (fun _ => Below.refl _ _)
    ·intro a wx hbx ho hf
     refine ⟨rfl, ?_⟩
     intro K hK
     have e0 : a.tmps[6]?.getD undef = .pointer (some ⟨p2, 0, none⟩) := ho 6 (by kernel_rfl)
     go_simp
     exact hK _ _ rfl (fun _ => Below.refl _ _)
    ·intro a wx hbx ho hf
     refine ⟨rfl, ?_⟩
     intro K hK
     have e0 : a.tmps[80]?.getD undef = .slice (some ⟨p2, 1, none⟩) 7 7 := hf.1
     have e1 : a.tmps[81]?.getD undef = .slice (some ⟨p2, 0, none⟩) 7 8 := hf.2.1
     have hB8 : Blk wx p2 237 (u32a [v0, v1, v2, v3, v4, v5, v6, v7]) := K8.out.below hbx K8.out.lt
     have hO8 : OnlyG p2 w5 wx := O8.out.trans (OnlyG.of_below hbx (Nat.le_of_lt K8.out.lt))
     refine wp_copy_row (.tmp 80) (.tmp 81) 257 257 rfl 233 p2 1 7 7 ⟨p2, 0, none⟩ 7 8 _ 237 (u32s [v0, v1, v2, v3, v4, v5, v6]) (evs e0) (evs e1) Tryz.underlying257 (by kernel_rfl) hB8 rfl ?_ (by rw [u32s_len, u32a_size]; exact Nat.le_refl 8) ?_ ?_
     ·intro j v hv
      have hj : j < 7 := by
       rcases Nat.lt_or_ge j 7 with h | h
       ·exact h
       ·rw [List.getElem?_eq_none (by simp [u32s]; omega)] at hv; cases hv
      rw [Addr.add_lit, Nat.zero_add, hB8.cell j, ← hv]
      rcases (show j = 0 ∨ j = 1 ∨ j = 2 ∨ j = 3 ∨ j = 4 ∨ j = 5 ∨ j = 6 by omega) with rfl | rfl | rfl | rfl | rfl | rfl | rfl <;> rfl
     ·intro v hv
      simp only [u32s, List.mem_map] at hv
      obtain ⟨n, _, rfl⟩ := hv
      rfl
     ·exact hK _ _ ⟨setRow_heap wx p2 _ _ _ _ hB8, hO8.trans (OnlyG.setRow p2 _)⟩ (fun hne => absurd rfl hne)
   ·rintro f w9 hfin
    have S9 : Blk w9 p2 237 (u32a [v0, v0, v1, v2, v3, v4, v5, v6]) ∧ OnlyG p2 w5 w9 := hfin.2.2.1
    clear hfin
    simp only [frameOf, dstsOf, zipF, List.filterMap_cons, List.filterMap_nil, List.contains_cons, List.contains_nil, Nat.reduceBEq, Nat.reduceAdd, Bool.or_false, Bool.or_true, cond_true, cond_false]
    have HS9 := Lib.hid S9
    have y4' : w9.cell? ⟨p2, 4, none⟩ = some (.int .u32 (v3 : Nat)) := S9.1.cell 4
    have y0' : w9.cell? ⟨p2, 0, none⟩ = some (.int .u32 (v0 : Nat)) := S9.1.cell 0
    have f4 := S9.1.frozen 4
    have f0 := S9.1.frozen 0
    clear S9
    go_wp2_with fail
    go_roundg (gk - 1)
    case measure => have := HT.out; omega
    case rel =>
     refine ⟨t + 1, by have := HT.out; omega, by go_num, ?_, (HS9.out.2.trans (OnlyG.setCell 4 _)).trans (OnlyG.setCell 0 _)⟩
     have c1 : ((v3 : Int) + (t1 : Int)) % 4294967296 = (((v3 + t1) % 4294967296 : Nat) : Int) := by rw [Int.natCast_emod, Int.natCast_add]; rfl
     have c2 : ((t1 : Int) + (t2 : Int)) % 4294967296 = (((t1 + t2) % 4294967296 : Nat) : Int) := by rw [Int.natCast_emod, Int.natCast_add]; rfl
     have hb := (HS9.out.1.set 4 (.int .u32 (((v3 + t1) % 4294967296 : Nat) : Int))).set 0 (.int .u32 (((t1 + t2) % 4294967296 : Nat) : Int))
     rw [u32a_set, u32a_set] at hb
     have hr : rndsN W S (t + 1) = ([v0, v0, v1, v2, v3, v4, v5, v6].set 4 ((v3 + t1) % 4294967296)).set 0 ((t1 + t2) % 4294967296) := by
      rw [rndsN, ← HV.out, HVL.out, ← HEK.out, ← HEW.out, HE1'.out, HE2'.out, HCH.out, HMA.out, HSG.out, HS0.out]
      show [_, _, _, _, _, _, _, _] = [_, _, _, _, _, _, _, _]
      congr 1
      ·show (_ + _) % _ = _
       exact Nat.add_mod _ _ _
      ·congr 1; congr 1; congr 1
       congr 1
       show (v3 + _) % _ = _
       rw [Nat.add_mod, Nat.add_mod v3 (_ % 4294967296), Nat.mod_mod]
       rfl
     rw [hr]
     first
     | exact hb
     | (rw [c1, c2]; exact hb)
  ·obtain rfl : t = 64 := by omega
   have hX := rndsN_ok (W := W) HLN.out HSL.out 64
   have HADD := Lib.hid (show addP S (rndsN W S 64) 8 = stepN S B by rw [EW.out]; exact addP_all S B)
   obtain ⟨X, hXE⟩ : ∃ X, X = rndsN W S 64 := ⟨_, rfl⟩
   rw [hV] at k2
   rw [← hXE] at hX k2 HADD
   have HXO := Lib.hid hX
   have HP2 := Lib.hid k2
   have HGG := Lib.hid (show Blk wr g 237 (u32a (addP S X 0)) by rw [addP_zero X HLN.out]; exact MG.out.only2 ho q6)
   have HOW := Lib.hid (OnlyG.far (OnlyG.of_below MBB.out (Nat.le_of_lt hgl)) ho Q.out (by omega))
   clear ht k2 ho hX hXE HK2 hlt HV hV HO HT M0 M1 M2 MG MBB HWL HWN EW EWA ESA EKA
   go_wp2_with fail
   obtain ⟨g1, rfl⟩ : ∃ g1, g1 = gk := ⟨_, rfl⟩
   obtain ⟨w6, rfl⟩ : ∃ w6, w6 = wr := ⟨_, rfl⟩
   go_loopg [93] 8 (fun q iv wr => ∃ i : Nat, i + q = 8 ∧ iv = .int .i64 (i : Nat) ∧ Blk wr p2 237 (u32a X) ∧ Blk wr g 237 (u32a (addP S X i)) ∧ OnlyG g w6 wr)
   case atStart => exact ⟨0, rfl, rfl, HP2.out, HGG.out, OnlyG.of_below (Below.refl _ _) (Nat.le_of_lt HGG.out.lt)⟩
   case round =>
    obtain ⟨i, hi, rfl, k2, kg, ho⟩ := hrel
    have HI := Lib.hid hi
    have J2 := Lib.hid k2
    have JG := Lib.hid kg
    have HO := Lib.hid ho
    by_cases hlt : i < 8
    ·have hlt' : decide ((i : Int) < 8) = true := by rw [decide_eq_true_iff]; omega
     have x1 : wr.cell? ⟨p2, i, none⟩ = some (.int .u32 ((X.getD i 0 : Nat) : Int)) := by rw [k2.cell i, u32a_get (by rw [HXO.out.1]; exact hlt)]
     have x2 : wr.cell? ⟨g, i, none⟩ = some (.int .u32 ((S.getD i 0 : Nat) : Int)) := by rw [kg.cell i, u32a_get (by rw [addP_len]; exact hlt), addP_get _ _ _ hlt, if_neg (by omega)]
     have f1 := kg.frozen i
     have b1 := getD_lt32 HXO.out.2 i
     have b2 := getD_lt32 HSL.out i
     obtain ⟨a, ha⟩ : ∃ a, a = X.getD i 0 := ⟨_, rfl⟩
     obtain ⟨b, hb⟩ : ∃ b, b = S.getD i 0 := ⟨_, rfl⟩
     rw [← ha] at x1 b1
     rw [← hb] at x2 b2
     have HST := Lib.hid (addP_step S X hlt)
     have HA := Lib.hid ha
     have HB' := Lib.hid hb
     clear ha hb hi k2 kg ho
     go_wp2_with fail
     go_region
     go_wp2_with fail
     go_roundg (gk - 1)
     case measure => have := HI.out; omega
     case rel =>
      refine ⟨i + 1, by have := HI.out; omega, by go_num, ?_, ?_, ?_⟩
      ·exact (J2.out.far (p := ⟨g, i, none⟩) (fun e => q6 e.symm) _).drewN 1
      ·have c1 : ((b : Int) + (a : Int)) % 4294967296 = (((S.getD i 0 + X.getD i 0) % 4294967296 : Nat) : Int) := by rw [← HA.out, ← HB'.out, Int.natCast_emod, Int.natCast_add]; rfl
       rw [c1, ← HST.out, ← u32a_set]
       exact (JG.out.set i _).drewN 1
      ·exact (HO.out.trans (OnlyG.setCell i _)).drewN 1
    ·obtain rfl : i = 8 := by omega
     rw [HADD.out] at kg
     have HKG := Lib.hid kg
     clear hi k2 kg ho
     go_wp2_with fail
     go_end0
     exact ⟨rfl, HKG.out, HOW.out.trans HO.out⟩
end Go.Proofs.YtngealmhgkoaiaaGreat
/- Walks: node.Copy. -/
namespace Go.Proofs.YtngealmhgkoaiaaGreat
open Go.RowKit WireM
set_option linter.unusedVariables false
theorem Own.onlyG {w w' : World} {B g : Nat} {e : TypeId} {v : Value} {xs : List Value} (h : Own w B e v xs) (ho : OnlyG g w w') (hg : g < B) : Own w' B e v xs := by
 obtain ⟨h1, h2 | ⟨g', cp, cur, e', hb, hh, rest⟩⟩ := h
 ·exact ⟨h1, .inl h2⟩
 ·refine ⟨h1, .inr ⟨g', cp, cur, e', hb, ?_, rest⟩⟩
  have hl : g' < w.heap.size := by
   rcases Nat.lt_or_ge g' w.heap.size with h | h
   ·exact h
   ·rw [Array.getElem?_eq_none h] at hh; cases hh
  rw [ho.2.2 g' hl (by omega)]
  exact hh
theorem onlyG_setCells (g : Nat) : ∀ (vs : List Value) (o : Nat) (w : World), OnlyG g w (w.setCells g o vs)
 | [], o, w => ⟨Below.refl _ _, Nat.le_refl _, fun _ _ _ => rfl⟩
 | v :: vs, o, w => by
  rw [World.setCells]
  exact (OnlyG.setCell o v).trans (onlyG_setCells g vs (o + 1) _)
theorem Own.setLow {w : World} {B : Nat} {e : TypeId} {v : Value} {xs : List Value} (h : Own w B e v xs) {p : Addr} (hp : p.block < B) (u : Value) : Own (w.setCell p u) B e v xs := by
 refine h.setOther (fun hv => ?_) u
 rcases h.2 with ⟨rfl, _⟩ | ⟨g, cp, cur, rfl, hg, _⟩
 ·simp [Value.ownBlock] at hv
 ·simp [Value.ownBlock] at hv; omega
theorem Blk.there {w : World} {g : Nat} {t : TypeId} {cs : Array Value} (h : Blk w g t cs) (o n : Nat) (hn : o + n ≤ cs.size) : w.there g o n := by
 intro j hj
 refine ⟨?_, h.frozen _⟩
 rw [h.cell, Array.getElem?_eq_getElem (by omega)]
 rfl
/-- the ten cells of a node in new memory -/
def NodeO (w : World) (B : Nat) (d : NodeD) (c : Array Value) : Prop :=
 ∃ x0 x1 x2 x3 x4 u0 u1 u2, c = #[.int .u8 (d.kind : Nat), x0, x1, x2, .int .u8 (d.leaf.source : Nat), x3, x4, u0, u1, u2] ∧
  Own w B 5 x0 (bvs d.leaf.box) ∧ Own w B 5 x1 (bvs d.leaf.sign) ∧ Own w B 5 x2 (bvs d.leaf.ident) ∧ Own w B 5 x3 (bvs d.leaf.par) ∧ Own w B 5 x4 (bvs d.leaf.sig) ∧
  Own w B 5 u0 (bvs d.par.box) ∧ Own w B 5 u1 (bvs d.par.hash) ∧ Own w B 3 u2 (ivs .i64 d.par.late)
theorem NodeO.below {w w' : World} {B B' : Nat} {d : NodeD} {c : Array Value} (h : NodeO w B d c) (hb : Below B' w w') (hB : w.heap.size ≤ B') : NodeO w' B d c := by
 obtain ⟨x0, x1, x2, x3, x4, u0, u1, u2, rfl, h0, h1, h2, h3, h4, h5, h6, h7⟩ := h
 exact ⟨x0, x1, x2, x3, x4, u0, u1, u2, rfl, h0.below hb hB, h1.below hb hB, h2.below hb hB, h3.below hb hB, h4.below hb hB, h5.below hb hB, h6.below hb hB, h7.below hb hB⟩
theorem NodeO.mono {w : World} {B B' : Nat} {d : NodeD} {c : Array Value} (h : NodeO w B d c) (hB : B' ≤ B) : NodeO w B' d c := by
 obtain ⟨x0, x1, x2, x3, x4, u0, u1, u2, rfl, h0, h1, h2, h3, h4, h5, h6, h7⟩ := h
 exact ⟨x0, x1, x2, x3, x4, u0, u1, u2, rfl, h0.mono hB, h1.mono hB, h2.mono hB, h3.mono hB, h4.mono hB, h5.mono hB, h6.mono hB, h7.mono hB⟩
theorem NodeO.c {w : World} {B : Nat} {d : NodeD} {c : Array Value} (h : NodeO w B d c) : NodeC w d c := by
 obtain ⟨x0, x1, x2, x3, x4, u0, u1, u2, rfl, h0, h1, h2, h3, h4, h5, h6, h7⟩ := h
 have g : ∀ {v : Value} {e : TypeId} {xs : List Value}, Own w B e v xs → ∃ a c, v = .slice a xs.length c := fun h => by obtain ⟨a, c, e, _⟩ := h.rd; exact ⟨a, c, e⟩
 obtain ⟨a0, c0, rfl⟩ := g h0
 obtain ⟨a1, c1, rfl⟩ := g h1
 obtain ⟨a2, c2, rfl⟩ := g h2
 obtain ⟨a3, c3, rfl⟩ := g h3
 obtain ⟨a4, c4, rfl⟩ := g h4
 obtain ⟨a5, c5, rfl⟩ := g h5
 obtain ⟨a6, c6, rfl⟩ := g h6
 obtain ⟨a7, c7, rfl⟩ := g h7
 have e7 : (ivs .i64 d.par.late).length = d.par.late.length := ivs_len' _ _
 simp only [bvs_len, e7] at h0 h1 h2 h3 h4 h5 h6 h7 ⊢
 exact ⟨a0, c0, a1, c1, a2, c2, a3, c3, a4, c4, a5, c5, a6, c6, a7, c7, rfl, h0.rd, h1.rd, h2.rd, h3.rd, h4.rd, h5.rd, h6.rd, h7.rd⟩
set_option maxRecDepth 100000 in
set_option maxHeartbeats 8000000 in
theorem nodeCopy_any (d : NodeD) (c : Array Value) (w : World) (h : NodeC w d c) (hs : smallB d = true) :
  Calls Tryz.prog 107 #[.agg c] w fun e w' => ∃ c', e = .returned (.agg c') ∧ NodeO w' w.heap.size d c' ∧ Below w.heap.size w w' := by
 have hsm := of_decide_eq_true hs
 obtain ⟨a1, c1, a2, c2, a3, c3, a4, c4, a5, c5, b1, e1, b2, e2, b3, e3, rfl, h1, h2, h3, h4, h5, h6, h7, h8⟩ := h
 have CL := fun (W : World) (hw : Below w.heap.size w W) => copyLeaf_any d.leaf #[.slice a1 d.leaf.box.length c1, .slice a2 d.leaf.sign.length c2, .slice a3 d.leaf.ident.length c3, .int .u8 (d.leaf.source : Nat), .slice a4 d.leaf.par.length c4, .slice a5 d.leaf.sig.length c5] W ⟨a1, c1, a2, c2, a3, c3, a4, c4, a5, c5, rfl, h1.below hw (Nat.le_refl _), h2.below hw (Nat.le_refl _), h3.below hw (Nat.le_refl _), h4.below hw (Nat.le_refl _), h5.below hw (Nat.le_refl _)⟩ (by omega)
 have C1 := fun (W : World) (hw : Below w.heap.size w W) => bclone_any _ d.par.box W (h6.below hw (Nat.le_refl _)) (by omega)
 have C2 := fun (W : World) (hw : Below w.heap.size w W) => bclone_any _ d.par.hash W (h7.below hw (Nat.le_refl _)) (by omega)
 have C3 := fun (W : World) (hw : Below w.heap.size w W) => iclone_any _ d.par.late W (h8.below hw (Nat.le_refl _)) (by omega)
 obtain ⟨kd, hkd⟩ : ∃ k, k = d.kind := ⟨_, rfl⟩
 obtain ⟨l1, hl1⟩ : ∃ l, l = d.leaf.box.length := ⟨_, rfl⟩
 obtain ⟨l2, hl2⟩ : ∃ l, l = d.leaf.sign.length := ⟨_, rfl⟩
 obtain ⟨l3, hl3⟩ : ∃ l, l = d.leaf.ident.length := ⟨_, rfl⟩
 obtain ⟨l4, hl4⟩ : ∃ l, l = d.leaf.par.length := ⟨_, rfl⟩
 obtain ⟨l5, hl5⟩ : ∃ l, l = d.leaf.sig.length := ⟨_, rfl⟩
 obtain ⟨l6, hl6⟩ : ∃ l, l = d.par.box.length := ⟨_, rfl⟩
 obtain ⟨l7, hl7⟩ : ∃ l, l = d.par.hash.length := ⟨_, rfl⟩
 obtain ⟨l8, hl8⟩ : ∃ l, l = d.par.late.length := ⟨_, rfl⟩
 obtain ⟨s, hsrc⟩ : ∃ s, s = d.leaf.source := ⟨_, rfl⟩
 rw [← hl1, ← hl2, ← hl3, ← hl4, ← hl5, ← hsrc] at CL
 rw [← hl6] at C1
 rw [← hl7] at C2
 rw [← hl8] at C3
 rw [← hkd, ← hl1, ← hl2, ← hl3, ← hl4, ← hl5, ← hl6, ← hl7, ← hl8, ← hsrc]
 have HCL := Lib.hid CL
 have HD1 := Lib.hid C1
 have HD2 := Lib.hid C2
 have HD3 := Lib.hid C3
 have HKD := Lib.hid hkd
 have HS := Lib.hid hsrc
 clear CL C1 C2 C3 hsm hs h1 h2 h3 h4 h5 h6 h7 h8 hl1 hl2 hl3 hl4 hl5 hl6 hl7 hl8 hkd hsrc
 have L0 := Lib.hid (show ((w.alloc (.cells #[.int .u8 (kd : Nat), .slice a1 l1 c1, .slice a2 l2 c2, .slice a3 l3 c3, .int .u8 (s : Nat), .slice a4 l4 c4, .slice a5 l5 c5, .slice b1 l6 e1, .slice b2 l7 e2, .slice b3 l8 e3] 54)).alloc (.cells #[.int .u8 0, .slice none 0 0, .slice none 0 0, .slice none 0 0, .int .u8 0, .slice none 0 0, .slice none 0 0, .slice none 0 0, .slice none 0 0, .slice none 0 0] 54)).rangeAt w.heap.size 1 [.slice a1 l1 c1, .slice a2 l2 c2, .slice a3 l3 c3, .int .u8 (s : Nat), .slice a4 l4 c4, .slice a5 l5 c5] from by
  intro j u hu
  have hb : Blk ((w.alloc (.cells #[.int .u8 (kd : Nat), .slice a1 l1 c1, .slice a2 l2 c2, .slice a3 l3 c3, .int .u8 (s : Nat), .slice a4 l4 c4, .slice a5 l5 c5, .slice b1 l6 e1, .slice b2 l7 e2, .slice b3 l8 e3] 54)).alloc (.cells #[.int .u8 0, .slice none 0 0, .slice none 0 0, .slice none 0 0, .int .u8 0, .slice none 0 0, .slice none 0 0, .slice none 0 0, .slice none 0 0, .slice none 0 0] 54)) w.heap.size 54 #[.int .u8 (kd : Nat), .slice a1 l1 c1, .slice a2 l2 c2, .slice a3 l3 c3, .int .u8 (s : Nat), .slice a4 l4 c4, .slice a5 l5 c5, .slice b1 l6 e1, .slice b2 l7 e2, .slice b3 l8 e3] := (Blk.new w _ _).alloc _
  rw [hb.cell]
  match j, hu with
  | 0, hu => exact hu
  | 1, hu => exact hu
  | 2, hu => exact hu
  | 3, hu => exact hu
  | 4, hu => exact hu
  | 5, hu => exact hu
  | j + 6, hu => simp at hu)
 have hA := (Below.refl w.heap.size w).alloc (Nat.le_refl _) (.cells #[.int .u8 (kd : Nat), .slice a1 l1 c1, .slice a2 l2 c2, .slice a3 l3 c3, .int .u8 (s : Nat), .slice a4 l4 c4, .slice a5 l5 c5, .slice b1 l6 e1, .slice b2 l7 e2, .slice b3 l8 e3] 54)
 have HBA := Lib.hid (hA.alloc hA.size (.cells #[.int .u8 0, .slice none 0 0, .slice none 0 0, .slice none 0 0, .int .u8 0, .slice none 0 0, .slice none 0 0, .slice none 0 0, .slice none 0 0, .slice none 0 0] 54))
 have HB0 := Lib.hid (show Blk ((w.alloc (.cells #[.int .u8 (kd : Nat), .slice a1 l1 c1, .slice a2 l2 c2, .slice a3 l3 c3, .int .u8 (s : Nat), .slice a4 l4 c4, .slice a5 l5 c5, .slice b1 l6 e1, .slice b2 l7 e2, .slice b3 l8 e3] 54)).alloc (.cells #[.int .u8 0, .slice none 0 0, .slice none 0 0, .slice none 0 0, .int .u8 0, .slice none 0 0, .slice none 0 0, .slice none 0 0, .slice none 0 0, .slice none 0 0] 54)) w.heap.size 54 #[.int .u8 (kd : Nat), .slice a1 l1 c1, .slice a2 l2 c2, .slice a3 l3 c3, .int .u8 (s : Nat), .slice a4 l4 c4, .slice a5 l5 c5, .slice b1 l6 e1, .slice b2 l7 e2, .slice b3 l8 e3] from (Blk.new w _ _).alloc _)
 have HR0 := Lib.hid (show Blk ((w.alloc (.cells #[.int .u8 (kd : Nat), .slice a1 l1 c1, .slice a2 l2 c2, .slice a3 l3 c3, .int .u8 (s : Nat), .slice a4 l4 c4, .slice a5 l5 c5, .slice b1 l6 e1, .slice b2 l7 e2, .slice b3 l8 e3] 54)).alloc (.cells #[.int .u8 0, .slice none 0 0, .slice none 0 0, .slice none 0 0, .int .u8 0, .slice none 0 0, .slice none 0 0, .slice none 0 0, .slice none 0 0, .slice none 0 0] 54)) (w.heap.size + 1) 54 #[.int .u8 0, .slice none 0 0, .slice none 0 0, .slice none 0 0, .int .u8 0, .slice none 0 0, .slice none 0 0, .slice none 0 0, .slice none 0 0, .slice none 0 0] by have h1 := Blk.new (w.alloc (.cells #[.int .u8 (kd : Nat), .slice a1 l1 c1, .slice a2 l2 c2, .slice a3 l3 c3, .int .u8 (s : Nat), .slice a4 l4 c4, .slice a5 l5 c5, .slice b1 l6 e1, .slice b2 l7 e2, .slice b3 l8 e3] 54)) 54 #[.int .u8 0, .slice none 0 0, .slice none 0 0, .slice none 0 0, .int .u8 0, .slice none 0 0, .slice none 0 0, .slice none 0 0, .slice none 0 0, .slice none 0 0]; simpa using h1)
 clear hA
 go_enter Tryz.func107, Tryz.ntmps107
 go_wp2_with (refine wpList_load_mid rfl 49 (.tmp 3) rfl w.heap.size 1 rfl [.slice a1 l1 c1, .slice a2 l2 c2, .slice a3 l3 c3, .int .u8 (s : Nat), .slice a4 l4 c4, .slice a5 l5 c5] _ L0.out Tryz.underlying49 rfl (by kernel_rfl) ?_)
 refine (HCL.out _ HBA.out).mono ?_
 rintro e w1 ⟨c', rfl, hlo, hb1⟩
 obtain ⟨x0, x1, x2, x3, x4, rfl, o0, o1, o2, o3, o4⟩ := hlo
 rw [← HS.out]
 have hg0 : w.heap.size < ((w.alloc (.cells #[.int .u8 (kd : Nat), .slice a1 l1 c1, .slice a2 l2 c2, .slice a3 l3 c3, .int .u8 (s : Nat), .slice a4 l4 c4, .slice a5 l5 c5, .slice b1 l6 e1, .slice b2 l7 e2, .slice b3 l8 e3] 54)).alloc (.cells #[.int .u8 0, .slice none 0 0, .slice none 0 0, .slice none 0 0, .int .u8 0, .slice none 0 0, .slice none 0 0, .slice none 0 0, .slice none 0 0, .slice none 0 0] 54)).heap.size := HB0.out.lt
 have hg1 : w.heap.size + 1 < ((w.alloc (.cells #[.int .u8 (kd : Nat), .slice a1 l1 c1, .slice a2 l2 c2, .slice a3 l3 c3, .int .u8 (s : Nat), .slice a4 l4 c4, .slice a5 l5 c5, .slice b1 l6 e1, .slice b2 l7 e2, .slice b3 l8 e3] 54)).alloc (.cells #[.int .u8 0, .slice none 0 0, .slice none 0 0, .slice none 0 0, .int .u8 0, .slice none 0 0, .slice none 0 0, .slice none 0 0, .slice none 0 0, .slice none 0 0] 54)).heap.size := HR0.out.lt
 have HK1 := Lib.hid (HB0.out.below hb1 hg0)
 have HK2 := Lib.hid (HR0.out.below hb1 hg1)
 have HBW := Lib.hid (HBA.out.trans (hb1.mono HBA.out.size))
 have HQ := Lib.hid (And.intro o0 (And.intro o1 (And.intro o2 (And.intro o3 o4))))
 have HONE := Lib.hid (show (#[x0, x1, x2, .int .u8 (s : Nat), x3, x4] : Array Value).all (·.oneCell') = true by
  rw [← Array.all_toList]; simp only [List.all_cons, List.all_nil, o0.oneCell, o1.oneCell, o2.oneCell, o3.oneCell, o4.oneCell]; rfl)
 obtain ⟨Bn, hBn⟩ : ∃ B, B = ((w.alloc (.cells #[.int .u8 (kd : Nat), .slice a1 l1 c1, .slice a2 l2 c2, .slice a3 l3 c3, .int .u8 (s : Nat), .slice a4 l4 c4, .slice a5 l5 c5, .slice b1 l6 e1, .slice b2 l7 e2, .slice b3 l8 e3] 54)).alloc (.cells #[.int .u8 0, .slice none 0 0, .slice none 0 0, .slice none 0 0, .int .u8 0, .slice none 0 0, .slice none 0 0, .slice none 0 0, .slice none 0 0, .slice none 0 0] 54)).heap.size := ⟨_, rfl⟩
 rw [← hBn] at HQ hg0 hg1
 have hBle : Bn ≤ w1.heap.size := by have := hb1.size; omega
 clear hb1 o0 o1 o2 o3 o4 hBn HB0 HR0 L0
 go_wp2_with (refine wpList_store_mid rfl 49 (.tmp 6) (.tmp 5) rfl w.heap.size 1 #[x0, x1, x2, .int .u8 (s : Nat), x3, x4] rfl rfl (HK1.out.there 1 6 (by simp)) (by kernel_rfl) HONE.out ?_)
 dsimp only [Act.put]
 obtain ⟨wr, hwr⟩ : ∃ X, X = w1.setCells w.heap.size 1 [x0, x1, x2, .int .u8 (s : Nat), x3, x4] := ⟨_, rfl⟩
 have hon : OnlyG w.heap.size w1 wr := by rw [hwr]; exact onlyG_setCells _ _ _ _
 have HBK := Lib.hid (show Blk wr w.heap.size 54 #[.int .u8 (kd : Nat), x0, x1, x2, .int .u8 (s : Nat), x3, x4, .slice b1 l6 e1, .slice b2 l7 e2, .slice b3 l8 e3] by
  rw [hwr]
  exact (((((HK1.out.set 1 x0).set 2 x1).set 3 x2).set 4 (.int .u8 (s : Nat))).set 5 x3).set 6 x4)
 have HKZ := Lib.hid (HK2.out.only2 hon (by omega))
 have HBR := Lib.hid (HBW.out.trans (hon.1.mono (Nat.le_refl _)))
 have HQ2 := Lib.hid (And.intro (HQ.out.1.onlyG hon hg0) (And.intro (HQ.out.2.1.onlyG hon hg0) (And.intro (HQ.out.2.2.1.onlyG hon hg0) (And.intro (HQ.out.2.2.2.1.onlyG hon hg0) (HQ.out.2.2.2.2.onlyG hon hg0)))))
 have hgB : w.heap.size < wr.heap.size := HBK.out.lt
 have hrB : w.heap.size + 1 < wr.heap.size := HKZ.out.lt
 have hBwr : Bn ≤ wr.heap.size := by have := hon.2.1; omega
 have k7 : wr.cell? ⟨w.heap.size, 7, none⟩ = some (.slice b1 l6 e1) := HBK.out.cell 7
 have k8 : wr.cell? ⟨w.heap.size, 8, none⟩ = some (.slice b2 l7 e2) := HBK.out.cell 8
 have k9 : wr.cell? ⟨w.heap.size, 9, none⟩ = some (.slice b3 l8 e3) := HBK.out.cell 9
 have HC1 := Lib.hid (fun (W : World) (hw : Below wr.heap.size wr W) => HD1.out W (HBR.out.trans (hw.mono HBR.out.size)))
 have HC2 := Lib.hid (fun (W : World) (hw : Below wr.heap.size wr W) => HD2.out W (HBR.out.trans (hw.mono HBR.out.size)))
 have HC3 := Lib.hid (fun (W : World) (hw : Below wr.heap.size wr W) => HD3.out W (HBR.out.trans (hw.mono HBR.out.size)))
 rw [← hwr]
 clear hwr HK1 HK2 HQ HONE hon HCL HD1 HD2 HD3
 refine wp_region_rel [fun v _ => v = .pointer (some ⟨w.heap.size, 7, none⟩), fun v _ => v = .pointer (some ⟨w.heap.size, 7, none⟩), fun v _ => v = .slice b1 l6 e1, fun v w' => Own w' wr.heap.size 5 v (bvs d.par.box), fun v _ => v = .pointer (some ⟨w.heap.size, 7, none⟩), fun v _ => v = .pointer (some ⟨w.heap.size, 8, none⟩), fun v _ => v = .slice b2 l7 e2, fun v w' => Own w' wr.heap.size 5 v (bvs d.par.hash), fun v _ => v = .pointer (some ⟨w.heap.size, 7, none⟩), fun v _ => v = .pointer (some ⟨w.heap.size, 9, none⟩), fun v _ => v = .slice b3 l8 e3, fun v w' => Own w' wr.heap.size 3 v (ivs .i64 d.par.late), fun v w' => ∃ u0 u1 u2, v = .agg #[u0, u1, u2] ∧ Own w' wr.heap.size 5 u0 (bvs d.par.box) ∧ Own w' wr.heap.size 5 u1 (bvs d.par.hash) ∧ Own w' wr.heap.size 3 u2 (ivs .i64 d.par.late), fun v _ => v = .pointer (some ⟨w.heap.size, 7, none⟩), fun v w' => ∃ u0 u1 u2, Blk w' w.heap.size 54 #[.int .u8 (kd : Nat), x0, x1, x2, .int .u8 (s : Nat), x3, x4, u0, u1, u2] ∧ Own w' wr.heap.size 5 u0 (bvs d.par.box) ∧ Own w' wr.heap.size 5 u1 (bvs d.par.hash) ∧ Own w' wr.heap.size 3 u2 (ivs .i64 d.par.late)]
  [true, true, true, true, true, true, true, true, true, true, true, true, true, true, true] (fun X => OnlyG w.heap.size wr X) (fun X Y => OnlyG w.heap.size X Y) (some 14) (by kernel_rfl) ?_ ((OnlyG.of_below (Below.refl _ _) (Nat.le_of_lt hgB)).drewN 1) (fun X Y hx h => OnlyG.of_below h (Nat.le_trans (Nat.le_of_lt hgB) hx.2.1)) (fun X Y hx hs => hx.trans hs) (by kernel_rfl) (by kernel_rfl) ?_ ?_
 ·exact keepsR_s (fun _ _ _ h _ _ => h) (keepsR_s (fun _ _ _ h _ _ => h) (keepsR_s (fun _ _ _ h _ _ => h) (keepsR_s (fun v x y h hi hs => Own.onlyG h hs hgB) (keepsR_s (fun _ _ _ h _ _ => h) (keepsR_s (fun _ _ _ h _ _ => h) (keepsR_s (fun _ _ _ h _ _ => h) (keepsR_s (fun v x y h hi hs => Own.onlyG h hs hgB) (keepsR_s (fun _ _ _ h _ _ => h) (keepsR_s (fun _ _ _ h _ _ => h) (keepsR_s (fun _ _ _ h _ _ => h) (keepsR_s (fun v x y h hi hs => Own.onlyG h hs hgB) (keepsR_s (fun v x y h hi hs => let ⟨u0, u1, u2, e, k0, k1, k2⟩ := h; ⟨u0, u1, u2, e, Own.onlyG k0 hs hgB, Own.onlyG k1 hs hgB, Own.onlyG k2 hs hgB⟩) (keepsR_s (fun _ _ _ h _ _ => h) (keepsR_q (fun v x y h hi hs => let ⟨u0, u1, u2, e, k0, k1, k2⟩ := h; ⟨u0, u1, u2, e.below hs e.lt, k0.below hs (Nat.le_refl _), k1.below hs (Nat.le_refl _), k2.below hs (Nat.le_refl _)⟩) (keepsR_nil)))))))))))))))
 ·refine .cons (owed7_go ?_) (.cons (owed7_go ?_) (.cons (owed7_go ?_) (.cons (owed7_go ?_) (.cons (owed7_go ?_) (.cons (owed7_go ?_) (.cons (owed7_go ?_) (.cons (owed7_go ?_) (.cons (owed7_go ?_) (.cons (owed7_go ?_) (.cons (owed7_go ?_) (.cons (owed7_go ?_) (.cons (owed7_go ?_) (.cons (owed7_go ?_) (.cons (owed7_go ?_) (.nil)))))))))))))))
  ·intro a wx hbx hq ho hf
   have hbx : OnlyG w.heap.size wr wx := hbx
   have hbq : Below wr.heap.size wr wx := hq (by kernel_rfl)
   clear hq
   refine ⟨rfl, ?_⟩
   intro K hK
   have e0 : a.tmps[1]?.getD undef = .pointer (some ⟨w.heap.size, 0, none⟩) := ho 1 (by kernel_rfl)
   go_simp
   exact hK _ _ rfl (stepR_no rfl (Below.refl _ _))
  ·intro a wx hbx hq ho hf
   have hbx : OnlyG w.heap.size wr wx := hbx
   have hbq : Below wr.heap.size wr wx := hq (by kernel_rfl)
   clear hq
   refine ⟨rfl, ?_⟩
   intro K hK
   have e0 : a.tmps[7]?.getD undef = .pointer (some ⟨w.heap.size, 7, none⟩) := hf.1
   go_simp
   exact hK _ _ rfl (stepR_no rfl (Below.refl _ _))
  ·intro a wx hbx hq ho hf
   have hbx : OnlyG w.heap.size wr wx := hbx
   have hbq : Below wr.heap.size wr wx := hq (by kernel_rfl)
   clear hq
   refine ⟨rfl, ?_⟩
   intro K hK
   have e0 : a.tmps[8]?.getD undef = .pointer (some ⟨w.heap.size, 7, none⟩) := hf.1
   have d1 := (hbq.cell (p := ⟨w.heap.size, 7, none⟩) hgB).trans k7
   go_simp
   exact hK _ _ rfl (stepR_no rfl (Below.refl _ _))
  ·intro a wx hbx hq ho hf
   have hbx : OnlyG w.heap.size wr wx := hbx
   have hbq : Below wr.heap.size wr wx := hq (by kernel_rfl)
   clear hq
   refine ⟨rfl, ?_⟩
   intro K hK
   have e0 : a.tmps[9]?.getD undef = .slice b1 l6 e1 := hf.1
   go_simp
   refine (HC1.out wx hbq).mono ?_
   rintro e w2 ⟨v9, rfl, hown, hb2⟩
   exact hK _ _ (hown.mono hbq.size) (stepR_no rfl hb2)
  ·intro a wx hbx hq ho hf
   have hbx : OnlyG w.heap.size wr wx := hbx
   have hbq : Below wr.heap.size wr wx := hq (by kernel_rfl)
   clear hq
   refine ⟨rfl, ?_⟩
   intro K hK
   have e0 : a.tmps[1]?.getD undef = .pointer (some ⟨w.heap.size, 0, none⟩) := ho 1 (by kernel_rfl)
   go_simp
   exact hK _ _ rfl (stepR_no rfl (Below.refl _ _))
  ·intro a wx hbx hq ho hf
   have hbx : OnlyG w.heap.size wr wx := hbx
   have hbq : Below wr.heap.size wr wx := hq (by kernel_rfl)
   clear hq
   refine ⟨rfl, ?_⟩
   intro K hK
   have e0 : a.tmps[11]?.getD undef = .pointer (some ⟨w.heap.size, 7, none⟩) := hf.1
   go_simp
   exact hK _ _ rfl (stepR_no rfl (Below.refl _ _))
  ·intro a wx hbx hq ho hf
   have hbx : OnlyG w.heap.size wr wx := hbx
   have hbq : Below wr.heap.size wr wx := hq (by kernel_rfl)
   clear hq
   refine ⟨rfl, ?_⟩
   intro K hK
   have e0 : a.tmps[12]?.getD undef = .pointer (some ⟨w.heap.size, 8, none⟩) := hf.1
   have d1 := (hbq.cell (p := ⟨w.heap.size, 8, none⟩) hgB).trans k8
   go_simp
   exact hK _ _ rfl (stepR_no rfl (Below.refl _ _))
  ·intro a wx hbx hq ho hf
   have hbx : OnlyG w.heap.size wr wx := hbx
   have hbq : Below wr.heap.size wr wx := hq (by kernel_rfl)
   clear hq
   refine ⟨rfl, ?_⟩
   intro K hK
   have e0 : a.tmps[13]?.getD undef = .slice b2 l7 e2 := hf.1
   go_simp
   refine (HC2.out wx hbq).mono ?_
   rintro e w2 ⟨v9, rfl, hown, hb2⟩
   exact hK _ _ (hown.mono hbq.size) (stepR_no rfl hb2)
  ·intro a wx hbx hq ho hf
   have hbx : OnlyG w.heap.size wr wx := hbx
   have hbq : Below wr.heap.size wr wx := hq (by kernel_rfl)
   clear hq
   refine ⟨rfl, ?_⟩
   intro K hK
   have e0 : a.tmps[1]?.getD undef = .pointer (some ⟨w.heap.size, 0, none⟩) := ho 1 (by kernel_rfl)
   go_simp
   exact hK _ _ rfl (stepR_no rfl (Below.refl _ _))
  ·intro a wx hbx hq ho hf
   have hbx : OnlyG w.heap.size wr wx := hbx
   have hbq : Below wr.heap.size wr wx := hq (by kernel_rfl)
   clear hq
   refine ⟨rfl, ?_⟩
   intro K hK
   have e0 : a.tmps[15]?.getD undef = .pointer (some ⟨w.heap.size, 7, none⟩) := hf.1
   go_simp
   exact hK _ _ rfl (stepR_no rfl (Below.refl _ _))
  ·intro a wx hbx hq ho hf
   have hbx : OnlyG w.heap.size wr wx := hbx
   have hbq : Below wr.heap.size wr wx := hq (by kernel_rfl)
   clear hq
   refine ⟨rfl, ?_⟩
   intro K hK
   have e0 : a.tmps[16]?.getD undef = .pointer (some ⟨w.heap.size, 9, none⟩) := hf.1
   have d1 := (hbq.cell (p := ⟨w.heap.size, 9, none⟩) hgB).trans k9
   go_simp
   exact hK _ _ rfl (stepR_no rfl (Below.refl _ _))
  ·intro a wx hbx hq ho hf
   have hbx : OnlyG w.heap.size wr wx := hbx
   have hbq : Below wr.heap.size wr wx := hq (by kernel_rfl)
   clear hq
   refine ⟨rfl, ?_⟩
   intro K hK
   have e0 : a.tmps[17]?.getD undef = .slice b3 l8 e3 := hf.1
   go_simp
   refine (HC3.out wx hbq).mono ?_
   rintro e w2 ⟨v9, rfl, hown, hb2⟩
   exact hK _ _ (hown.mono hbq.size) (stepR_no rfl hb2)
  ·intro a wx hbx hq ho hf
   have hbx : OnlyG w.heap.size wr wx := hbx
   have hbq : Below wr.heap.size wr wx := hq (by kernel_rfl)
   clear hq
   refine ⟨rfl, ?_⟩
   intro K hK
   have o0 : Own wx wr.heap.size 5 (a.tmps[10]?.getD undef) (bvs d.par.box) := hf.1
   obtain ⟨v0, hv0⟩ : ∃ v, v = a.tmps[10]?.getD undef := ⟨_, rfl⟩
   rw [← hv0] at o0
   have e0 := hv0.symm
   clear hv0
   have o1 : Own wx wr.heap.size 5 (a.tmps[14]?.getD undef) (bvs d.par.hash) := hf.2.1
   obtain ⟨v1, hv1⟩ : ∃ v, v = a.tmps[14]?.getD undef := ⟨_, rfl⟩
   rw [← hv1] at o1
   have e1 := hv1.symm
   clear hv1
   have o2 : Own wx wr.heap.size 3 (a.tmps[18]?.getD undef) (ivs .i64 d.par.late) := hf.2.2.1
   obtain ⟨v2, hv2⟩ : ∃ v, v = a.tmps[18]?.getD undef := ⟨_, rfl⟩
   rw [← hv2] at o2
   have e2 := hv2.symm
   clear hv2
   obtain ⟨p1, p2, p3, rfl⟩ := slOf' o0
   obtain ⟨p4, p5, p6, rfl⟩ := slOf' o1
   obtain ⟨p7, p8, p9, rfl⟩ := slOf' o2
   go_simp
   exact hK _ _ ⟨_, _, _, rfl, o0, o1, o2⟩ (stepR_no rfl (Below.refl _ _))
  ·intro a wx hbx hq ho hf
   have hbx : OnlyG w.heap.size wr wx := hbx
   have hbq : Below wr.heap.size wr wx := hq (by kernel_rfl)
   clear hq
   refine ⟨rfl, ?_⟩
   intro K hK
   have e0 : a.tmps[1]?.getD undef = .pointer (some ⟨w.heap.size, 0, none⟩) := ho 1 (by kernel_rfl)
   go_simp
   exact hK _ _ rfl (stepR_no rfl (Below.refl _ _))
  ·intro a wx hbx hq ho hf
   have hbx : OnlyG w.heap.size wr wx := hbx
   have hbq : Below wr.heap.size wr wx := hq (by kernel_rfl)
   clear hq
   refine ⟨rfl, ?_⟩
   intro K hK
   have e0 : a.tmps[20]?.getD undef = .pointer (some ⟨w.heap.size, 7, none⟩) := hf.1
   have o1 : ∃ u0 u1 u2, (a.tmps[19]?.getD undef) = .agg #[u0, u1, u2] ∧ Own wx wr.heap.size 5 u0 (bvs d.par.box) ∧ Own wx wr.heap.size 5 u1 (bvs d.par.hash) ∧ Own wx wr.heap.size 3 u2 (ivs .i64 d.par.late) := hf.2.1
   obtain ⟨v1, hv1⟩ : ∃ v, v = a.tmps[19]?.getD undef := ⟨_, rfl⟩
   rw [← hv1] at o1
   have e1 := hv1.symm
   clear hv1
   obtain ⟨u0, u1, u2, hu, k0, k1, k2⟩ := o1
   have hblk := HBK.out.below hbq HBK.out.lt
   refine wp_store_mid 52 (.tmp 20) (.tmp 19) rfl w.heap.size 7 #[u0, u1, u2] (evs e0) (evs (e1.trans hu)) (hblk.there 7 3 (by simp)) (by kernel_rfl) (by rw [← Array.all_toList]; simp only [List.all_cons, List.all_nil, k0.oneCell, k1.oneCell, k2.oneCell]; rfl) ?_
   have hne : ∀ {e v xs}, Own wx wr.heap.size e v xs → e ≠ 54 → ∀ (j : Nat) (u : Value) (W : World), Own W wr.heap.size e v xs → Own (W.setCell ⟨w.heap.size, j, none⟩ u) wr.heap.size e v xs := fun _ _ j u W h2 => h2.setLow (p := ⟨w.heap.size, j, none⟩) hgB u
   exact hK undef _ ⟨u0, u1, u2, ((hblk.set 7 u0).set 8 u1).set 9 u2, hne k0 (by decide) _ _ _ (hne k0 (by decide) _ _ _ (hne k0 (by decide) _ _ _ k0)), hne k1 (by decide) _ _ _ (hne k1 (by decide) _ _ _ (hne k1 (by decide) _ _ _ k1)), hne k2 (by decide) _ _ _ (hne k2 (by decide) _ _ _ (hne k2 (by decide) _ _ _ k2))⟩ (stepR_yes rfl (((OnlyG.setCell 7 u0).trans (OnlyG.setCell 8 u1)).trans (OnlyG.setCell 9 u2)))
 ·rintro f w9 hb9 hfin
  have hb9 : OnlyG w.heap.size wr w9 := hb9
  have S20 : ∃ u0 u1 u2, Blk w9 w.heap.size 54 #[.int .u8 (kd : Nat), x0, x1, x2, .int .u8 (s : Nat), x3, x4, u0, u1, u2] ∧ Own w9 wr.heap.size 5 u0 (bvs d.par.box) ∧ Own w9 wr.heap.size 5 u1 (bvs d.par.hash) ∧ Own w9 wr.heap.size 3 u2 (ivs .i64 d.par.late) := hfin.2.2.2.2.2.2.2.2.2.2.2.2.2.2.1
  clear hfin
  simp only [frameOf, dstsOf, zipF, List.filterMap_cons, List.filterMap_nil, List.contains_cons, List.contains_nil, Nat.reduceBEq, Nat.reduceAdd, Bool.or_false, Bool.or_true, cond_true, cond_false]
  obtain ⟨u0, u1, u2, hblk, k0, k1, k2⟩ := S20
  have HZ9 := Lib.hid (HKZ.out.only2 hb9 (by omega))
  have HQ9 := Lib.hid (And.intro (HQ2.out.1.onlyG hb9 hg0) (And.intro (HQ2.out.2.1.onlyG hb9 hg0) (And.intro (HQ2.out.2.2.1.onlyG hb9 hg0) (And.intro (HQ2.out.2.2.2.1.onlyG hb9 hg0) (HQ2.out.2.2.2.2.onlyG hb9 hg0)))))
  have HB9 := Lib.hid (HBR.out.trans (hb9.1.mono (Nat.le_refl _)))
  have HP9 := Lib.hid (And.intro (k0.mono hBwr) (And.intro (k1.mono hBwr) (k2.mono hBwr)))
  obtain ⟨XS, hXS⟩ : ∃ X, X = (#[.int .u8 (kd : Nat), x0, x1, x2, .int .u8 (s : Nat), x3, x4, u0, u1, u2] : Array Value) := ⟨_, rfl⟩
  have HONE := Lib.hid (show XS.toList.all (·.oneCell') = true by
   rw [hXS]
   simp only [List.all_cons, List.all_nil, HQ9.out.1.oneCell, HQ9.out.2.1.oneCell, HQ9.out.2.2.1.oneCell, HQ9.out.2.2.2.1.oneCell, HQ9.out.2.2.2.2.oneCell, HP9.out.1.oneCell, HP9.out.2.1.oneCell, HP9.out.2.2.oneCell]; rfl)
  rw [← hXS] at hblk
  have HBK9 := Lib.hid hblk
  have HIN := Lib.hid (show (Tryz.prog.info? 54).map (·.size) = some XS.size by rw [hXS]; exact node_info)
  have HZS := Lib.hid (show (#[.int .u8 0, .slice none 0 0, .slice none 0 0, .slice none 0 0, .int .u8 0, .slice none 0 0, .slice none 0 0, .slice none 0 0, .slice none 0 0, .slice none 0 0] : Array Value).size = XS.size by rw [hXS]; rfl)
  have HXE := Lib.hid hXS
  have hg9 : w.heap.size + 1 < w9.heap.size := HZ9.out.lt
  clear hXS hblk k0 k1 k2 hb9 k7 k8 k9 HC1 HC2 HC3 HKZ HQ2 HBR HBK hgB hrB
  go_wp2_with (first | (refine wpList_load_row rfl 54 (.tmp 1) rfl w.heap.size rfl 54 XS (0, 0) _ HBK9.out Tryz.underlying54 rfl HIN.out ?_) | (refine wpList_store_blk rfl 54 (.tmp 2) (.tmp 21) rfl (w.heap.size + 1) XS rfl rfl 54 #[.int .u8 0, .slice none 0 0, .slice none 0 0, .slice none 0 0, .int .u8 0, .slice none 0 0, .slice none 0 0, .slice none 0 0, .slice none 0 0, .slice none 0 0] HZ9.out HIN.out HZS.out HONE.out ?_))
  intro w3 m0 mb mo msz
  have M0 := Lib.hid m0
  have HB3 := Lib.hid (HB9.out.trans ((mb (w.heap.size + 1) (Nat.le_refl _)).mono (by omega)))
  have hoo : OnlyG (w.heap.size + 1) w9 w3 := ⟨mb (w.heap.size + 1) (Nat.le_refl _), by omega, fun i _ hne => mo i hne⟩
  have hb3 : w.heap.size ≤ Bn := by omega
  have HF := Lib.hid (And.intro ((HQ9.out.1.onlyG hoo hg1).mono hb3) (And.intro ((HQ9.out.2.1.onlyG hoo hg1).mono hb3) (And.intro ((HQ9.out.2.2.1.onlyG hoo hg1).mono hb3) (And.intro ((HQ9.out.2.2.2.1.onlyG hoo hg1).mono hb3) ((HQ9.out.2.2.2.2.onlyG hoo hg1).mono hb3)))))
  have HG := Lib.hid (And.intro ((HP9.out.1.onlyG hoo hg1).mono hb3) (And.intro ((HP9.out.2.1.onlyG hoo hg1).mono hb3) ((HP9.out.2.2.onlyG hoo hg1).mono hb3)))
  clear m0 mb mo msz hoo
  go_wp2_with fail
  refine bodyPost_ret (v := .agg XS) (results_row1 rfl _ _ (w.heap.size + 1) 54 XS _ rfl M0.out Tryz.underlying54 rfl HIN.out) rfl ⟨XS, rfl, ⟨x0, x1, x2, x3, x4, u0, u1, u2, by rw [HXE.out, HKD.out, HS.out], HF.out.1, HF.out.2.1, HF.out.2.2.1, HF.out.2.2.2.1, HF.out.2.2.2.2, HG.out.1, HG.out.2.1, HG.out.2.2⟩, HB3.out⟩
end Go.Proofs.YtngealmhgkoaiaaGreat
/- Walks: tree.Copy. -/
namespace Go.Proofs.YtngealmhgkoaiaaGreat
open Go.RowKit WireM
set_option linter.unusedVariables false
theorem treesE : ElemK Tryz.prog 22 54 (.agg #[.int .u8 0, .slice none 0 0, .slice none 0 0, .slice none 0 0, .int .u8 0, .slice none 0 0, .slice none 0 0, .slice none 0 0, .slice none 0 0, .slice none 0 0]) 10 208 := ⟨Tryz.underlying22, by kernel_rfl, rfl, by omega, by omega⟩
section
variable {P : Program} {w : World}
/-- as wpList_pushK; and what else may have changed is said -/
theorem wpList_pushG {ops : Array Oper} {rest : List Oper} {o : Oper} {a : Act} {Q : Exit → Act → World → Prop} (hgd : o.guard = none) (s x : Operand) (t : TypeId)
  (ho : o.op = .call { callee := .builtin .append, args := #[s, x], argTypes := #[t, t] })
  (B : Nat) (e : TypeId) (z : Value) (k bytes : Nat) (F : ElemK P t e z k bytes)
  (v : Value) (n : Nat) (xs : List Value) (hs : a.eval s = v) (hown : OwnK w B e k v n xs)
  (N : Nat) (ys : List Value) (hx : a.eval x = .slice (some ⟨N, 0, none⟩) 1 1) (hl : ys.length = k) (hu : ∀ (j : Nat) u, ys[j]? = some u → w.cell? ⟨N, j, none⟩ = some u) (h1 : ∀ u ∈ ys, u.oneCell' = true)
  (hn : n < 137438953472) (hB : B ≤ w.heap.size)
  (h : ∀ v' w', OwnK w' B e k v' (n + 1) (xs ++ ys) → w.grownBy w' v.ownBlock → Below B w w' → wpList P ops Q rest (a.put o.dst v') w') : wpList P ops Q (o :: rest) a w := by
 obtain ⟨i, hi, hz, hsz, hby⟩ := info_partsK F.inf
 have low := F.low
 refine wpList_append_own w hgd s x t ho B e i z k bytes F.ty hi hz hsz hby F.one F.pos v n xs hs hown ⟨N, 0, none⟩ 1 1 ys hx (by rw [hl, Nat.one_mul]) (fun j u hj => by rw [Addr.add_lit, Nat.zero_add]; exact hu j u hj) h1 ?_ ?_ hB ?_
 ·unfold maxLen; omega
 ·have : (n + 1) * bytes ≤ (n + 1) * 512 := Nat.mul_le_mul_left _ low
  omega
 ·intro v' w' h2 h3 _
  refine h v' w' h2 h3 ?_
  refine (Below.refl B w).grown h3 hB ?_
  intro k hk
  exact (World.ownsRow.lt hown k hk).1
end
theorem Own.grown {w w' : World} {B : Nat} {e : TypeId} {v : Value} {xs : List Value} {row : Option Nat} (h : Own w B e v xs) (hg : w.grownBy w' row) (hne : ∀ g, v.ownBlock = some g → row ≠ some g) : Own w' B e v xs := by
 obtain ⟨h1, h2 | ⟨g, cp, cur, rfl, hb, hh, rest⟩⟩ := h
 ·exact ⟨h1, .inl h2⟩
 ·refine ⟨h1, .inr ⟨g, cp, cur, rfl, hb, ?_, rest⟩⟩
  have hl : g < w.heap.size := by
   rcases Nat.lt_or_ge g w.heap.size with h | h
   ·exact h
   ·rw [Array.getElem?_eq_none h] at hh; cases hh
  rw [hg.block g hl (fun e => hne g (by simp [Value.ownBlock]) e.symm)]
  exact hh
theorem OwnK.ne {w : World} {B B' : Nat} {e e' : TypeId} {k n : Nat} {v v' : Value} {xs ys : List Value} (h : OwnK w B e k v n xs) (h' : Own w B' e' v' ys) (he : e' ≠ e) : ∀ g, v'.ownBlock = some g → v.ownBlock ≠ some g := by
 intro g hg hg2
 rcases h.2 with ⟨rfl, _⟩ | ⟨g1, cp, cur, rfl, hb, hh, _⟩
 ·simp [Value.ownBlock] at hg2
 ·simp [Value.ownBlock] at hg2
  subst hg2
  exact h'.ne_blk hh he hg
/-- two slices lie in two blocks -/
def apart2 (u v : Value) : Prop := ∀ g, u.ownBlock = some g → v.ownBlock ≠ some g
theorem Own.blockLt {w : World} {B : Nat} {e : TypeId} {v : Value} {xs : List Value} (h : Own w B e v xs) {g : Nat} (hg : v.ownBlock = some g) : g < w.heap.size ∧ B ≤ g := by
 rcases h.2 with ⟨rfl, _⟩ | ⟨g', cp, cur, rfl, hb, hh, _⟩
 ·simp [Value.ownBlock] at hg
 ·simp [Value.ownBlock] at hg
  subst hg
  refine ⟨?_, hb⟩
  rcases Nat.lt_or_ge g' w.heap.size with h | h
  ·exact h
  ·rw [Array.getElem?_eq_none h] at hh; cases hh
def cellsAt (xs : List Value) (j : Nat) : List Value := (xs.drop (10 * j)).take 10
theorem cellsAt_old {xs ys : List Value} {i j : Nat} (h : xs.length = 10 * i) (hj : j < i) : cellsAt (xs ++ ys) j = cellsAt xs j := by
 unfold cellsAt
 rw [List.drop_append_of_le_length (by omega), List.take_append_of_le_length (by rw [List.length_drop]; omega)]
theorem cellsAt_new {xs ys : List Value} {i : Nat} (h : xs.length = 10 * i) (hy : ys.length = 10) : cellsAt (xs ++ ys) i = ys := by
 unfold cellsAt
 rw [← h, List.drop_left, List.take_of_length_le (by omega)]
def lateV (xs : List Value) (j : Nat) : Value := (cellsAt xs j).getD 9 undef
/-- the cells of so many nodes, all in new memory; the late lists lie in blocks of their own -/
def NodesO (w : World) (B : Nat) (xs : List Value) (t : List NodeD) (i : Nat) : Prop :=
 xs.length = 10 * i ∧ (∀ j, j < i → NodeO w B (nd t j) (cellsAt xs j).toArray) ∧ ∀ j k, j < k → k < i → apart2 (lateV xs j) (lateV xs k)
theorem NodesO.below {w w' : World} {B B' : Nat} {xs : List Value} {t : List NodeD} {i : Nat} (h : NodesO w B xs t i) (hb : Below B' w w') (hB : w.heap.size ≤ B') : NodesO w' B xs t i := ⟨h.1, fun j hj => (h.2.1 j hj).below hb hB, h.2.2⟩
/-- a tree in new memory -/
def TreeO (w : World) (B : Nat) (v : Value) (t : List NodeD) : Prop := ∃ xs, OwnK w B 54 10 v t.length xs ∧ NodesO w B xs t t.length
theorem TreeO.below {w w' : World} {B B' : Nat} {v : Value} {t : List NodeD} (h : TreeO w B v t) (hb : Below B' w w') (hB : w.heap.size ≤ B') : TreeO w' B v t := by
 obtain ⟨xs, h1, h2⟩ := h
 exact ⟨xs, h1.below hb hB, h2.below hb hB⟩
theorem cellsAt_get {xs : List Value} {i j k : Nat} (h : xs.length = 10 * i) (hj : j < i) {u : Value} (hu : (cellsAt xs j)[k]? = some u) : xs[10 * j + k]? = some u := by
 unfold cellsAt at hu
 rw [List.getElem?_take] at hu
 split at hu
 ·rw [List.getElem?_drop] at hu; exact hu
 ·cases hu
theorem TreeO.r {w : World} {B : Nat} {v : Value} {t : List NodeD} (h : TreeO w B v t) : TreeR w v t := by
 obtain ⟨xs, h1, h2⟩ := h
 rcases Nat.eq_zero_or_pos t.length with h0 | hp
 ·have e : t = [] := List.eq_nil_of_length_eq_zero h0
  subst e
  rcases h1.2 with ⟨rfl, _⟩ | ⟨g, cap, cur, rfl, hg, hh, hn, hm, hs, ht⟩
  ·exact TreeR.nil w
  ·exact ⟨_, cap, rfl, hn, hm, fun i hi => absurd hi (by simp)⟩
 ·obtain ⟨g, cap, rfl, hB, hlt, hn, hm, hc, _⟩ := h1.out hp
  refine ⟨_, cap, rfl, hn, hm, fun i hi => ⟨g, 0, (cellsAt xs i).toArray, rfl, hlt, (h2.2.1 i hi).c, ?_⟩⟩
  intro j u hu
  have := hc _ u (cellsAt_get h2.1 hi (k := j) (by simpa using hu))
  rw [show 0 + i * 10 + j = 10 * i + j by omega]
  exact this
theorem NodeO.late {w : World} {B : Nat} {d : NodeD} {c : Array Value} (h : NodeO w B d c) : Own w B 3 (c.toList.getD 9 undef) (ivs .i64 d.par.late) := by
 obtain ⟨x0, x1, x2, x3, x4, u0, u1, u2, rfl, h0, h1, h2, h3, h4, h5, h6, h7⟩ := h
 exact h7
theorem NodesO.snoc {w : World} {B B' : Nat} {xs ys : List Value} {t : List NodeD} {i : Nat} {W : World} (h : NodesO W B xs t i) (hW : Below W.heap.size W w) (hn : NodeO w B' (nd t i) ys.toArray) (hB : B ≤ B') (hB' : W.heap.size ≤ B') (hy : ys.length = 10) : NodesO w B (xs ++ ys) t (i + 1) := by
 refine ⟨by rw [List.length_append, h.1, hy]; omega, fun j hj => ?_, fun j k hjk hk => ?_⟩
 ·by_cases e : j = i
  ·subst e; rw [cellsAt_new h.1 hy]; exact hn.mono hB
  ·rw [cellsAt_old h.1 (by omega)]; exact (h.2.1 j (by omega)).below hW (Nat.le_refl _)
 ·by_cases e : k = i
  ·subst e
   intro g hg hg2
   have l1 := ((h.2.1 j hjk).late).blockLt (g := g) (by
    have : lateV (xs ++ ys) j = lateV xs j := by unfold lateV; rw [cellsAt_old h.1 hjk]
    rw [this] at hg; simpa [lateV] using hg)
   have l2 := (hn.late).blockLt (g := g) (by
    have : lateV (xs ++ ys) k = ys.getD 9 undef := by unfold lateV; rw [cellsAt_new h.1 hy]
    rw [this] at hg2; simpa using hg2)
   omega
  ·have := h.2.2 j k hjk (by omega)
   unfold lateV at this ⊢
   rw [cellsAt_old h.1 (by omega), cellsAt_old h.1 (by omega)]; exact this
theorem NodeO.keep {w w' : World} {B : Nat} {d : NodeD} {c : Array Value} (h : NodeO w B d c) (hk : ∀ e v xs, e ≠ 54 → Own w B e v xs → Own w' B e v xs) : NodeO w' B d c := by
 obtain ⟨x0, x1, x2, x3, x4, u0, u1, u2, rfl, h0, h1, h2, h3, h4, h5, h6, h7⟩ := h
 exact ⟨x0, x1, x2, x3, x4, u0, u1, u2, rfl, hk _ _ _ (by decide) h0, hk _ _ _ (by decide) h1, hk _ _ _ (by decide) h2, hk _ _ _ (by decide) h3, hk _ _ _ (by decide) h4, hk _ _ _ (by decide) h5, hk _ _ _ (by decide) h6, hk _ _ _ (by decide) h7⟩
theorem NodesO.grown {w w' : World} {B B' n : Nat} {v : Value} {xs zs : List Value} {t : List NodeD} {i : Nat} (h : NodesO w B xs t i) (ho : OwnK w B' 54 10 v n zs) (hg : w.grownBy w' v.ownBlock) : NodesO w' B xs t i :=
 ⟨h.1, fun j hj => (h.2.1 j hj).keep fun e u ys he hu => hu.grown hg fun g hgg => ho.ne hu he g hgg, h.2.2⟩
set_option maxRecDepth 100000 in
set_option maxHeartbeats 8000000 in
theorem treeCopy_med (v : Value) (t : List NodeD) (w : World) (h : TreeR w v t) (hs : medT t = true) :
  Calls Tryz.prog 122 #[v] w fun e w' => ∃ v', e = .returned v' ∧ TreeO w' w.heap.size v' t ∧ Below w.heap.size w w' := by
 have hlen := medT_len hs
 obtain ⟨ta, c, rfl, hc, hc2⟩ := h.sl
 have GN := fun (W : World) (hw : Below w.heap.size w W) (i : Nat) (hi : i < t.length) => (h.below hw (Nat.le_refl _)).node hi
 have CP := fun (i : Nat) (cs : Array Value) (W : World) (hw : NodeC W (nd t i) cs) => nodeCopy_any (nd t i) cs W hw (medT_nd hs i)
 have FIN := fun (W : World) (v : Value) (xs : List Value) (h1 : OwnK W w.heap.size 54 10 v t.length xs) (h2 : NodesO W w.heap.size xs t t.length) => (show TreeO W w.heap.size v t from ⟨xs, h1, h2⟩)
 obtain ⟨n, hn⟩ : ∃ n, n = t.length := ⟨_, rfl⟩
 rw [← hn] at GN FIN hc hlen ⊢
 have HGN := Lib.hid GN
 have HCP := Lib.hid CP
 have HFI := Lib.hid FIN
 clear GN CP FIN h hs hn
 go_enter Tryz.func122, Tryz.ntmps122
 go_wp2_with fail
 go_loopg [3, 8] n (fun q ov iv wr => ∃ i : Nat, i + q = n ∧ iv = .int .i64 (i : Nat) ∧ Below w.heap.size w wr ∧ ∃ xs, OwnK wr w.heap.size 54 10 ov i xs ∧ NodesO wr w.heap.size xs t i)
 case atStart => exact ⟨0, by omega, rfl, Below.refl _ _, [], OwnK.nil _ _ _ _, rfl, fun j hj => by omega, fun j k _ hk => by omega⟩
 case round =>
  obtain ⟨i, hi, rfl, hb, xs, hown, hno⟩ := hrel
  have HI := Lib.hid hi
  have HB := Lib.hid hb
  have HO := Lib.hid hown
  have HN := Lib.hid hno
  by_cases hlt : i < n
  ·have hlt' : decide (i < n) = true := decide_eq_true hlt
   have hltI : (i : Int) < (n : Int) := by omega
   obtain ⟨b, off, cs, rfl, hbl, hnc, hra⟩ := HGN.out wr hb i hlt
   have HNC := Lib.hid hnc
   obtain ⟨D, hD⟩ : ∃ D, D = nd t i := ⟨_, rfl⟩
   have HDE := Lib.hid hD
   rw [← hD] at hnc
   obtain ⟨a1, c1, a2, c2, a3, c3, a4, c4, a5, c5, b1, e1, b2, e2, b3, e3, hcs, -⟩ := hnc
   obtain ⟨kd, hkd⟩ : ∃ k, k = D.kind := ⟨_, rfl⟩
   obtain ⟨l1, hl1⟩ : ∃ l, l = D.leaf.box.length := ⟨_, rfl⟩
   obtain ⟨l2, hl2⟩ : ∃ l, l = D.leaf.sign.length := ⟨_, rfl⟩
   obtain ⟨l3, hl3⟩ : ∃ l, l = D.leaf.ident.length := ⟨_, rfl⟩
   obtain ⟨l4, hl4⟩ : ∃ l, l = D.leaf.par.length := ⟨_, rfl⟩
   obtain ⟨l5, hl5⟩ : ∃ l, l = D.leaf.sig.length := ⟨_, rfl⟩
   obtain ⟨l6, hl6⟩ : ∃ l, l = D.par.box.length := ⟨_, rfl⟩
   obtain ⟨l7, hl7⟩ : ∃ l, l = D.par.hash.length := ⟨_, rfl⟩
   obtain ⟨l8, hl8⟩ : ∃ l, l = D.par.late.length := ⟨_, rfl⟩
   obtain ⟨s, hsrc⟩ : ∃ s, s = D.leaf.source := ⟨_, rfl⟩
   rw [← hkd, ← hl1, ← hl2, ← hl3, ← hl4, ← hl5, ← hl6, ← hl7, ← hl8, ← hsrc] at hcs
   rw [hcs] at hra HNC
   have HRA := Lib.hid hra
   clear hkd hl1 hl2 hl3 hl4 hl5 hl6 hl7 hl8 hsrc hD hcs hra hi hb hown hno
   go_wp2_with (refine wpList_load_mid rfl 54 (.tmp 10) rfl b (off + i * 10) rfl [.int .u8 (kd : Nat), .slice a1 l1 c1, .slice a2 l2 c2, .slice a3 l3 c3, .int .u8 (s : Nat), .slice a4 l4 c4, .slice a5 l5 c5, .slice b1 l6 e1, .slice b2 l7 e2, .slice b3 l8 e3] _ HRA.out Tryz.underlying54 rfl node_info ?_)
   refine (HCP.out i _ _ (HNC.out.below ((Below.refl wr.heap.size wr).alloc (Nat.le_refl _) _) (Nat.le_refl _))).mono ?_
   rintro e w2 ⟨c', rfl, hno2, hb2⟩
   have hba := (Below.refl wr.heap.size wr).alloc (Nat.le_refl _) (.cells #[.int .u8 (kd : Nat), .slice a1 l1 c1, .slice a2 l2 c2, .slice a3 l3 c3, .int .u8 (s : Nat), .slice a4 l4 c4, .slice a5 l5 c5, .slice b1 l6 e1, .slice b2 l7 e2, .slice b3 l8 e3] 54)
   have hbw := hba.trans (hb2.mono hba.size)
   have hno3 := hno2.mono hba.size
   have hc10 : c'.toList.length = 10 := by obtain ⟨x0, x1, x2, x3, x4, u0, u1, u2, rfl, _⟩ := hno2; rfl
   have HNN := Lib.hid (show NodesO w2 w.heap.size (xs ++ c'.toList) t (i + 1) from HN.out.snoc hbw (by simpa using hno3) HB.out.size (Nat.le_refl _) hc10)
   have hone : ∀ u ∈ c'.toList, u.oneCell' = true := by
    obtain ⟨x0, x1, x2, x3, x4, u0, u1, u2, rfl, k0, k1, k2, k3, k4, k5, k6, k7⟩ := hno2
    intro u hu
    simp only [List.mem_cons, List.not_mem_nil, or_false] at hu
    rcases hu with rfl | rfl | rfl | rfl | rfl | rfl | rfl | rfl | rfl | rfl
    ·rfl
    ·exact k0.oneCell
    ·exact k1.oneCell
    ·exact k2.oneCell
    ·rfl
    ·exact k3.oneCell
    ·exact k4.oneCell
    ·exact k5.oneCell
    ·exact k6.oneCell
    ·exact k7.oneCell
   have HONE := Lib.hid hone
   have HC10 := Lib.hid hc10
   have HB2 := Lib.hid (HB.out.trans (hbw.mono HB.out.size))
   have HO2 := Lib.hid (HO.out.below hbw (Nat.le_refl _))
   obtain ⟨kk, x0, x1, x2, ss, x3, x4, u0, u1, u2, rfl⟩ : ∃ kk x0 x1 x2 ss x3 x4 u0 u1 u2, c' = #[kk, x0, x1, x2, ss, x3, x4, u0, u1, u2] := by
    obtain ⟨x0, x1, x2, x3, x4, u0, u1, u2, e, _⟩ := hno2; exact ⟨_, _, _, _, _, _, _, _, _, _, e⟩
   clear hno2 hb2 hba hbw hno3 hc10 hone
   go_wp2_with (at_builtin; refine wpList_pushG rfl (.tmp 12) (.tmp 15) 22 rfl w.heap.size 54 _ 10 208 treesE _ i _ rfl (HO2.out.alloc _) w2.heap.size [kk, x0, x1, x2, ss, x3, x4, u0, u1, u2] rfl rfl ?c1 HONE.out ?c2 ?c3 ?_)
   case c1 => exact cells_new (cs := [kk, x0, x1, x2, ss, x3, x4, u0, u1, u2]) rfl
   case c2 => omega
   case c3 => have := HB2.out.size; simp; omega
   rintro v' w3 hown3 hg3 hb3
   have HO3 := Lib.hid hown3
   have hb4 := (HB2.out.alloc HB2.out.size (.cells #[kk, x0, x1, x2, ss, x3, x4, u0, u1, u2] 54)).trans hb3
   have HB3 := Lib.hid hb4
   have HN3 := Lib.hid ((HNN.out.below ((Below.refl w2.heap.size w2).alloc (Nat.le_refl _) (.cells #[kk, x0, x1, x2, ss, x3, x4, u0, u1, u2] 54)) (Nat.le_refl _)).grown (HO2.out.alloc _) hg3)
   clear hown3 hg3 hb3 hb4
   go_wp2_with fail
   go_roundg (gk - 1)
   case measure => have := HI.out; omega
   case rel =>
    refine ⟨i + 1, by have := HI.out; omega, by go_num, HB3.out, _, HO3.out, HN3.out⟩
  ·obtain rfl : i = n := by omega
   have hlt' : decide (i < i) = false := decide_eq_false hlt
   have HF := Lib.hid (HFI.out wr _ xs hown hno)
   clear hi hb hown hno hlt
   go_wp2_with fail
   go_ret
   exact ⟨_, rfl, HF.out, HB.out⟩
theorem treeCopy_any (v : Value) (t : List NodeD) (w : World) (h : TreeR w v t) (hs : smallT t = true) :
  Calls Tryz.prog 122 #[v] w fun e w' => ∃ v', e = .returned v' ∧ TreeO w' w.heap.size v' t ∧ Below w.heap.size w w' :=
 treeCopy_med v t w h (smallT_med hs)
end Go.Proofs.YtngealmhgkoaiaaGreat
/- Walks: sha.tail, slices.Clone of bytes. -/
namespace Go.Proofs.YtngealmhgkoaiaaGreat
open Go.RowKit ShaM WireM
set_option linter.unusedVariables false
theorem bvs_snoc2 (L : List Nat) (n : Nat) : bvs (L ++ [n]) = bvs L ++ [.int .u8 (n : Int)] := by simp [bvs]
theorem beN_at (n v : Nat) : ∀ i j, j < i → (beN i v)[j]? = some (v / 256 ^ (i - 1 - j) % 256) := by
 intro i
 induction i with
 | zero => intro j h; omega
 | succ i ih =>
  intro j h
  rw [beN]
  cases j with
  | zero => simp
  | succ j => rw [List.getElem?_cons_succ, ih j (by omega), show i + 1 - 1 - (j + 1) = i - 1 - j by omega]
theorem slLen {w : World} {B : Nat} {e : TypeId} {v : Value} {xs : List Value} (h : Own w B e v xs) (n : Nat) (hn : xs.length = n) : ∃ a c, v = .slice a n c := by
 obtain ⟨a, c, e, _⟩ := h.rd
 exact ⟨a, c, by rw [e, hn]⟩
theorem cellN {w : World} {u : Value} {e : TypeId} {N : Nat} (hN : N = w.heap.size) : (w.alloc (.cells #[u] e)).cell? ⟨N, 0, none⟩ = some u := by
 subst hN; rw [cell_of_row _ _ _ _ _ _ (heap_alloc_new w _)]; rfl
set_option maxRecDepth 100000 in
set_option maxHeartbeats 4000000 in
theorem tail_any (n : Nat) (w : World) (hn : n ≤ 1000000) :
  Calls Tryz.prog 255 #[.int .i64 (n : Nat)] w fun e w' => ∃ v, e = .returned v ∧ Own w' w.heap.size 5 v (bvs (tailL n)) ∧ Below w.heap.size w w' := by
 obtain ⟨Z, hZ⟩ : ∃ Z, Z = (119 - n % 64) % 64 := ⟨_, rfl⟩
 have htl : tailL n = ([128] ++ List.replicate Z 0) ++ beN 8 (8 * n) := by rw [tailL, ← hZ]; simp
 rw [htl]
 have HZ := Lib.hid hZ
 have O0 := Lib.hid (show Own (w.alloc (.cells #[.int .u8 128] 5)) w.heap.size 5 (.slice (some ⟨w.heap.size, 0, none⟩) 1 1) (bvs ([128] ++ List.replicate 0 0)) from Own.full (cs := #[.int .u8 128]) rfl (Nat.le_refl _) (by unfold maxLen; simp) rfl)
 obtain ⟨m, hm⟩ : ∃ m, m = 8 * n := ⟨_, rfl⟩
 rw [← hm]
 have hm8 : (n : Int) * 8 = (m : Int) := by omega
 have hmu : IntKind.u64.wrap (n : Int) = (n : Int) := by rw [IntKind.wrap_u64]; omega
 have hm2 : m ≤ 8000000 := by omega
 clear htl hZ hm
 go_enter Tryz.func255, Tryz.ntmps255
 go_wp2_with fail
 go_loopg [3] Z (fun q bv wr => ∃ k : Nat, k + q = Z ∧ Own wr w.heap.size 5 bv (bvs ([128] ++ List.replicate k 0)) ∧ Below w.heap.size w wr)
 case atStart => exact ⟨0, by omega, O0.out, (Below.refl _ _).alloc (Nat.le_refl _) _⟩
 case round =>
  obtain ⟨k, hk, hown, hb⟩ := hrel
  obtain ⟨s1, s3, rfl⟩ := slLen hown (1 + k) (by rw [bvs_len, List.length_append, List.length_replicate]; rfl)
  have HK := Lib.hid hk
  have HO := Lib.hid hown
  have HB := Lib.hid hb
  obtain ⟨l, hl⟩ : ∃ l, l = 1 + k := ⟨_, rfl⟩
  rw [← hl]
  obtain ⟨r, hr⟩ : ∃ r, r = (n + l) % 64 := ⟨_, rfl⟩
  have e1 : ((n : Int) + (l : Int)) % 64 = (r : Int) := by omega
  have e2 : Int.tmod ((n : Int) + (l : Int)) 64 = (r : Int) := by rw [Int.tmod_eq_emod_of_nonneg (by omega)]; omega
  have hZ := HZ.out
  have hl64 : l ≤ 100 := by omega
  have HLE := Lib.hid hl
  by_cases hlt : k < Z
  ·have g1 : ((r : Int) == 56) = false := by rw [beq_eq_false_iff_ne]; omega
   have g2 : ((r : Int) != 56) = true := by rw [bne, g1]; rfl
   clear hown hb hk hZ hr hl
   go_wp2_with (at_builtin; refine wpList_push rfl (.tmp 12) (.tmp 13) 25 rfl w.heap.size 5 _ 1 bytesE _ (bvs ([128] ++ List.replicate k 0)) rfl (by rw [HLE.out]; exact HO.out.alloc _) ⟨wr.heap.size, 0, none⟩ (.int .u8 0) rfl (cellN rfl) rfl ?d2 ?d3 ?_)
   case d2 => have := HZ.out; have := HK.out; rw [bvs_len, List.length_append, List.length_replicate]; simp; omega
   case d3 => have := HB.out.size; simp; omega
   rintro v'' w4 hown - hb4
   have HO4 := Lib.hid hown
   have HB4 := Lib.hid ((HB.out.alloc HB.out.size (.cells #[.int .u8 0] 5)).trans hb4)
   clear hown hb4
   go_wp2_with fail
   go_roundg (gk - 1)
   case measure => have := HK.out; omega
   case rel =>
    refine ⟨k + 1, by have := HK.out; omega, ?_, HB4.out⟩
    have := HO4.out
    rw [List.replicate_succ', ← List.append_assoc, bvs_snoc2]
    exact this
  ·obtain rfl : k = Z := by omega
   have g1 : ((r : Int) == 56) = true := by rw [beq_iff_eq]; omega
   have g2 : ((r : Int) != 56) = false := by rw [bne, g1]; rfl
   clear hown hb hk hZ hr hl
   obtain ⟨A, hA⟩ : ∃ A, A = [128] ++ List.replicate k 0 := ⟨_, rfl⟩
   have hAl : A.length ≤ 100 := by have := HZ.out; rw [hA, List.length_append, List.length_replicate]; simp; omega
   have HO1 := Lib.hid (show Own wr w.heap.size 5 (.slice s1 l s3) (bvs (A ++ (beN 8 m).take 0)) by rw [List.take_zero, List.append_nil, hA, HLE.out]; exact HO.out)
   have HAE := Lib.hid hA
   clear hA HO O0
   go_wp2_with fail
   obtain ⟨g1', rfl⟩ : ∃ g1, g1 = gk := ⟨_, rfl⟩
   obtain ⟨w1, rfl⟩ : ∃ w1, w1 = wr := ⟨_, rfl⟩
   go_loopg [3, 4] 8 (fun q bv iv wr => ∃ j : Nat, j + q = 8 ∧ iv = .int .i64 (7 - (j : Int)) ∧ Own wr w.heap.size 5 bv (bvs (A ++ (beN 8 m).take j)) ∧ Below w.heap.size w wr)
   case atStart => exact ⟨0, rfl, rfl, HO1.out, HB.out⟩
   case round =>
    obtain ⟨j, hj, rfl, hown, hb⟩ := hrel
    have HJ := Lib.hid hj
    have HO2 := Lib.hid hown
    have HB2 := Lib.hid hb
    obtain ⟨s4, s5, s6, rfl⟩ := slOf hown
    by_cases hlt2 : j < 8
    ·obtain ⟨i, hi⟩ : ∃ i, i = 7 - j := ⟨_, rfl⟩
     have e0 : (7 : Int) - (j : Int) = (i : Int) := by omega
     rw [e0]
     obtain ⟨p, hp⟩ : ∃ p, p = 8 * i := ⟨_, rfl⟩
     have ep : 8 * (i : Int) = (p : Int) := by omega
     have hp64 : p < 64 := by omega
     have hi8 : i < 8 := by omega
     obtain ⟨x, hx⟩ : ∃ x, x = m / 256 ^ i % 256 := ⟨_, rfl⟩
     have ev : (m : Int) / 2 ^ p % 256 = (x : Int) := by
      have hpw : 256 ^ i = 2 ^ (8 * i) := by rw [Nat.pow_mul]
      rw [hx, hp, hpw, Int.natCast_emod, Int.natCast_ediv, Int.natCast_pow]
      rfl
     have HL := Lib.hid (show (beN 8 m).take (j + 1) = (beN 8 m).take j ++ [x] by
      have := beN_at m m 8 j hlt2
      rw [List.take_add_one, this, hx, hi]; rfl)
     obtain ⟨T, hT⟩ : ∃ T, T = A ++ (beN 8 m).take j := ⟨_, rfl⟩
     have hTl : T.length ≤ 200 := by rw [hT, List.length_append, List.length_take]; omega
     have HT := Lib.hid hT
     have HO3 := Lib.hid (show Own wr w.heap.size 5 (.slice s4 s5 s6) (bvs T) by rw [hT]; exact hown)
     have HI := Lib.hid hi
     clear hown hb hj hi hp e0 hx HO2 hT
     go_wp2_with (at_builtin; refine wpList_push rfl (.tmp 19) (.tmp 27) 25 rfl w.heap.size 5 _ 1 bytesE _ (bvs T) rfl (HO3.out.alloc _) ⟨wr.heap.size, 0, none⟩ (.int .u8 (x : Nat)) rfl (cellN rfl) rfl ?f2 ?f3 ?_)
     case f2 => rw [bvs_len]; omega
     case f3 => have := HB2.out.size; simp; omega
     rintro v'' w4 hown - hb4
     have HO4 := Lib.hid hown
     have HB4 := Lib.hid ((HB2.out.alloc HB2.out.size (.cells #[.int .u8 (x : Nat)] 5)).trans hb4)
     clear hown hb4
     go_wp2_with fail
     go_roundg (gk - 1)
     case measure => have := HJ.out; omega
     case rel =>
      refine ⟨j + 1, by have := HJ.out; omega, ?_, ?_, HB4.out⟩
      ·have := HI.out; have := HJ.out
       show Value.int .i64 ((i : Int) - 1) = _
       congr 1
       omega
      ·rw [HL.out, ← List.append_assoc, ← HT.out, bvs_snoc2]
       exact HO4.out
    ·obtain rfl : j = 8 := by omega
     clear hown hb hj
     go_wp2_with fail
     go_ret
     refine ⟨_, rfl, ?_, HB2.out⟩
     have := HO2.out
     rw [List.take_of_length_le (by rw [beN_len]; omega), HAE.out] at this
     simpa using this
end Go.Proofs.YtngealmhgkoaiaaGreat
/- Walks: sha.Sum. -/
namespace Go.Proofs.YtngealmhgkoaiaaGreat
open Go.RowKit ShaM WireM
set_option linter.unusedVariables false
theorem Rd.onlyG {w w' : World} {v : Value} {xs : List Value} {g : Nat} (h : Rd w v xs) (ho : OnlyG g w w') (hne : ∀ a n c, v = .slice (some a) n c → a.block ≠ g) : Rd w' v xs := by
 rcases h.lt with rfl | ⟨b, off, cap, e, hb⟩
 ·obtain ⟨a, c, e, h1, h2, h3⟩ := h
  refine ⟨a, c, e, h1, h2, .inl ⟨rfl, ?_⟩⟩
  rcases h3 with ⟨_, h3⟩ | ⟨b, off, h3, _⟩
  ·exact h3
  ·intro h; rw [h3] at h; cases h
 ·obtain ⟨a, c, e', h1, h2, h3⟩ := h
  rw [e] at e'
  simp only [Value.slice.injEq] at e'
  obtain ⟨rfl, -, rfl⟩ := e'
  refine ⟨_, cap, e, h1, h2, ?_⟩
  rcases h3 with ⟨h3, _⟩ | ⟨b', off', h3, hc⟩
  ·exact .inl ⟨h3, fun h => by cases h⟩
  ·refine .inr ⟨b', off', h3, fun j u hu => ?_⟩
   simp only [Option.some.injEq, Addr.mk.injEq, and_true] at h3
   obtain ⟨rfl, rfl⟩ := h3
   have hh := ho.2.2 b hb (hne _ _ _ e)
   have := hc j u hu
   unfold World.cell? at this ⊢
   simp only [hh]
   exact this
theorem bvs_take2 (L : List Nat) (k : Nat) : bvs (L.take k) = (bvs L).take k := by simp [bvs, List.map_take]
theorem Rd.pre {w : World} {a : Option Addr} {n c : Nat} {xs : List Value} (h : Rd w (.slice a n c) xs) (k : Nat) (hk : k ≤ n) : Rd w (.slice a k c) (xs.take k) := by
 obtain ⟨a', cap, e, q1, q2, q3⟩ := h
 simp only [Value.slice.injEq] at e
 obtain ⟨rfl, rfl, rfl⟩ := e
 have hl : (xs.take k).length = k := by rw [List.length_take]; omega
 refine ⟨a, c, by rw [hl], by rw [hl]; omega, q2, ?_⟩
 rcases q3 with ⟨rfl, q⟩ | ⟨b, off, rfl, q⟩
 ·exact .inl ⟨by simp, q⟩
 ·refine .inr ⟨b, off, rfl, fun j u hu => q j u ?_⟩
  rw [List.getElem?_take] at hu
  split at hu
  ·exact hu
  ·cases hu
theorem Rd.cap {w : World} {a : Option Addr} {n c : Nat} {xs : List Value} (h : Rd w (.slice a n c) xs) : n ≤ c ∧ c ≤ maxLen := by
 obtain ⟨a', cap, e, q1, q2, _⟩ := h
 simp only [Value.slice.injEq] at e
 exact ⟨by omega, by omega⟩
/-- how long a slice is -/
def lenV : Value → Nat
 | .slice _ n _ => n
 | _ => 0
/-- at every arrival at the label -/
def SumJ (B : Nat) (P : List Nat) (Z : Array Value) (a0 : Option Addr) (n c0 : Nat) (w : World) (a' : Act) (w' : World) : Prop :=
 ∃ (ps i rl rc : Nat) (ra : Option Addr), B < ps ∧ rl + 64 * i = P.length ∧ Blk w' ps 237 (u32a (blocksN P HL0 i)) ∧ Blk w' B 214 Z ∧ Rd w' (.slice ra rl rc) (bvs (P.drop (64 * i))) ∧ (∀ a, ra = some a → a.block ≠ ps) ∧ Below B w w' ∧
  ∃ (x1 x5 x6 x7 x8 x9 x10 x11 x12 x13 x14 x15 x16 x17 x18 x19 x20 x21 x22 x23 x24 x25 x26 x27 x28 x29 x30 x31 x32 x33 x34 x35 x36 x37 x38 x39 x40 x41 x42 x43 x44 x45 x46 x47 x48 x49 x50 x51 x52 x53 x54 x55 : Value), a' = { tmps := #[.slice a0 n c0, x1, .pointer (some ⟨B, 0, none⟩), .pointer (some ⟨ps, 0, none⟩), .slice ra rl rc, x5, x6, x7, x8, x9, x10, x11, x12, x13, x14, x15, x16, x17, x18, x19, x20, x21, x22, x23, x24, x25, x26, x27, x28, x29, x30, x31, x32, x33, x34, x35, x36, x37, x38, x39, x40, x41, x42, x43, x44, x45, x46, x47, x48, x49, x50, x51, x52, x53, x54, x55], defers := [] }
def Z32a : Array Value := (bvs (List.replicate 32 0)).toArray
theorem padL_lt {b : List Nat} (h : ∀ x ∈ b, x < 256) : ∀ x ∈ padL b, x < 256 := by
 intro x hx
 rcases List.mem_append.1 hx with hx | hx
 ·exact h x hx
 ·rcases List.mem_cons.1 hx with rfl | hx
  ·omega
  ·rcases List.mem_append.1 hx with hx | hx
   ·rw [(List.mem_replicate.1 hx).2]; omega
   ·exact beN_lt _ _ x hx
theorem padL_len2 (b : List Nat) : (padL b).length ≤ b.length + 72 := by
 simp only [padL, tailL, List.length_append, List.length_cons, List.length_replicate, beN_len]
 omega
/-- the first t words are laid -/
def outN (S : List Nat) (t : Nat) : List Nat := (List.range 32).map fun j => if j < 4 * t then S.getD (j / 4) 0 / 2 ^ (8 * (3 - j % 4)) % 256 else 0
theorem outN_zero (S : List Nat) : (bvs (outN S 0)).toArray = Z32a := by simp [outN, Z32a, bvs, List.range_succ]
theorem outN_len (S : List Nat) (t : Nat) : (outN S t).length = 32 := by simp [outN]
theorem outN_get (S : List Nat) (t : Nat) {j : Nat} (h : j < 32) : (outN S t).getD j 0 = if j < 4 * t then S.getD (j / 4) 0 / 2 ^ (8 * (3 - j % 4)) % 256 else 0 := by simp [outN, List.getD_eq_getElem?_getD, h]
theorem getD_set (l : List Nat) (i j x : Nat) : (l.set i x).getD j 0 = if i = j ∧ j < l.length then x else l.getD j 0 := by
 simp only [List.getD_eq_getElem?_getD, List.getElem?_set]
 by_cases h : i = j
 ·subst h
  by_cases h2 : i < l.length
  ·simp [h2]
  ·simp [h2]
 ·simp [h]
theorem outN_step (S : List Nat) {t : Nat} (h : t < 8) {x : Nat} (hx : x = S.getD t 0) : ((((outN S t).set (4 * t) (x / 16777216 % 256)).set (4 * t + 1) (x / 65536 % 256)).set (4 * t + 2) (x / 256 % 256)).set (4 * t + 3) (x % 256) = outN S (t + 1) := by
 refine ext_getD (by simp [outN_len]) fun j hj => ?_
 simp only [List.length_set, outN_len] at hj
 simp only [getD_set, List.length_set, outN_len, outN_get S _ hj]
 by_cases h0 : j < 4 * t
 ·rw [if_neg (by omega), if_neg (by omega), if_neg (by omega), if_neg (by omega), if_pos h0, if_pos (by omega)]
 ·by_cases h4 : j < 4 * (t + 1)
  ·have e : j / 4 = t := by omega
   rw [if_pos h4, e, ← hx]
   obtain e | e | e | e : j = 4 * t ∨ j = 4 * t + 1 ∨ j = 4 * t + 2 ∨ j = 4 * t + 3 := by omega
   ·rw [if_neg (by omega), if_neg (by omega), if_neg (by omega), if_pos (by omega), show j % 4 = 0 by omega]
   ·rw [if_neg (by omega), if_neg (by omega), if_pos (by omega), show j % 4 = 1 by omega]
   ·rw [if_neg (by omega), if_pos (by omega), show j % 4 = 2 by omega]
   ·rw [if_pos (by omega), show j % 4 = 3 by omega]; simp
  ·rw [if_neg (by omega), if_neg (by omega), if_neg (by omega), if_neg (by omega), if_neg h0, if_neg h4]
theorem outN_cell {S : List Nat} {t g : Nat} {w : World} {ty : TypeId} (h : Blk w g ty (bvs (outN S t)).toArray) {j : Nat} (hj : j < 32) : ∃ u, w.cell? ⟨g, j, none⟩ = some u := by
 rw [h.cell]
 exact ⟨_, Array.getElem?_eq_getElem (by simpa [bvs, outN_len] using hj)⟩
theorem bvs_set (L : List Nat) (i n : Nat) : (bvs L).toArray.setIfInBounds i (.int .u8 (n : Int)) = (bvs (L.set i n)).toArray := by
 simp [bvs, List.map_set]
theorem outN_end {S : List Nat} (h : S.length = 8) : outN S 8 = (S.map (beN 4)).flatten := by
 match S, h with
 | [a, b, c, d, e, f, g, k], _ => simp [outN, List.range_succ, beN]
set_option maxRecDepth 100000 in
set_option maxHeartbeats 8000000 in
theorem ssum_any (v : Value) (L : List Nat) (w : World) (h : Rd w v (bvs L)) (hL : ∀ x ∈ L, x < 256) (hl : L.length ≤ 1000000) :
  Calls Tryz.prog 227 #[v] w fun e w' => e = .returned (.agg (bvs (shaF L)).toArray) ∧ Below w.heap.size w w' := by
 have hz : ∀ w, (zeroValue 214).run Tryz.prog w = .ok (.agg Z32a) w := fun _ => by kernel_rfl
 have hz8 : ∀ w, (zeroValue 237).run Tryz.prog w = .ok (.agg Z8a) w := fun _ => by kernel_rfl
 have BG := fun (W : World) => begin_any W
 have CL := fun (W : World) (hw : Below w.heap.size w W) => clone_any v L W (h.below hw (Nat.le_refl _)) (by omega)
 have TL := fun (W : World) => tail_any L.length W hl
 have hv : ∃ a c, v = .slice a L.length c := by obtain ⟨a, c, e, _⟩ := h; exact ⟨a, c, by rw [e, bvs_len]⟩
 obtain ⟨a0, c0, rfl⟩ := hv
 have hpl := padL_len L
 have hpb := padL_lt hL
 have hpl2 := padL_len2 L
 obtain ⟨P, hP⟩ : ∃ P, P = padL L := ⟨_, rfl⟩
 have hPE : bvs L ++ bvs (tailL L.length) = bvs P := by rw [hP, padL]; simp [bvs]
 rw [← hP] at hpl hpb hpl2
 obtain ⟨HA, hHA⟩ : ∃ A, A = HLa := ⟨_, rfl⟩
 simp only [← hHA] at BG
 have IH := Lib.hid (show (Tryz.prog.info? 237).map (·.size) = some HA.size by rw [hHA, HLa]; exact info8 HL0 rfl)
 have ZH := Lib.hid (show Z8a.size = HA.size by rw [hHA]; unfold Z8a HLa; rw [u32a_size, u32a_size]; rfl)
 have OH := Lib.hid (show HA.toList.all (·.oneCell') = true by rw [hHA, Array.all_toList]; exact u32a_one HL0)
 obtain ⟨n, hn⟩ : ∃ n, n = L.length := ⟨_, rfl⟩
 rw [← hn] at CL TL hPE hl hpl2 ⊢
 have HBG := Lib.hid BG
 have HCL := Lib.hid CL
 have HTL := Lib.hid TL
 have HPE := Lib.hid hPE
 have HN := Lib.hid hn
 have HPP := Lib.hid hP
 have HAE := Lib.hid hHA
 clear BG CL TL hPE hn hP hHA h hL
 go_enter Tryz.func227, Tryz.ntmps227
 go_wp2_with fail
 refine wp_scope_label' 0 (SumJ w.heap.size P Z32a a0 n c0 w) (fun ac _ => lenV (ac.tmps.getD 4 undef)) rfl ?_ ?_
 ·rintro ac wx ⟨ps, i, rl, rc, ra, hps, hi, hS, hR, hrd, hne, hb, hf⟩
  iterate 52 (obtain ⟨_, hf⟩ := hf)
  subst hf
  have HS := Lib.hid hS
  have HR := Lib.hid hR
  have HRD := Lib.hid hrd
  have HB := Lib.hid hb
  by_cases h0 : 0 < rl
  ·have h64 : 64 ≤ rl := by omega
   have hrc := hrd.cap
   have g0 : decide (0 < rl) = true := decide_eq_true h0
   have hlen : (bvs (P.drop (64 * i))).length = rl := by rw [bvs_len, List.length_drop]; omega
   obtain ⟨bb, oo, rfl, hbl, hcell⟩ := hrd.at3 (r := 0) (u := (bvs (P.drop (64 * i)))[0]'(by omega)) (List.getElem?_eq_getElem _)
   have ok := blocksN_ok P HL0_len HL0_lt i
   have hpre := hrd.pre 64 h64
   rw [← bvs_take2] at hpre
   have ST := step_any ps _ (blocksN P HL0 i) ((P.drop (64 * i)).take 64) wx hS ok.2 ok.1 hpre (fun x hx => hpb x (List.mem_of_mem_drop (List.mem_of_mem_take hx))) (by rw [List.length_take, List.length_drop]; omega)
   have HST := Lib.hid ST
   have HNE := Lib.hid hne
   have HI := Lib.hid hi
   have h64c : 64 ≤ rc := by omega
   clear hcell ST hpre hS hR hrd hb hne hi hlen ok h0
   go_wp2_with fail
   refine (HST.out).mono ?_
   rintro e w' ⟨rfl, hS', ho⟩
   have HS' := Lib.hid hS'
   have HO := Lib.hid ho
   clear hS' ho
   by_cases h64e : rc = 64
   ·subst h64e
    obtain rfl : rl = 64 := by omega
    go_wp2_with fail
    refine wp_goto ⟨rfl, ⟨ps, i + 1, 0, 0, _, hps, ?c1, ?c2, HR.out.only2 HO.out (by omega), ?c4, ?c5, HB.out.trans (HO.out.1.mono (by omega)), _, _, _, _, _, _, _, _, _, _, _, _, _, _, _, _, _, _, _, _, _, _, _, _, _, _, _, _, _, _, _, _, _, _, _, _, _, _, _, _, _, _, _, _, _, _, _, _, _, _, _, _, rfl⟩, ?_⟩
    case c1 => have := HI.out; omega
    case c2 => rw [blocksN]; exact HS'.out
    case c4 =>
     have e : P.drop (64 * (i + 1)) = [] := List.drop_eq_nil_of_le (by have := HI.out; omega)
     rw [e]
     refine ⟨some ⟨bb, oo, none⟩, 0, rfl, Nat.le_refl _, by unfold maxLen; omega, .inr ⟨bb, oo, rfl, fun j u hu => ?_⟩⟩
     simp [bvs] at hu
    case c5 => intro a e; simp only [Option.some.injEq] at e; subst e; exact HNE.out _ rfl
    show 0 < 64
    omega
   ·go_wp2_with fail
    refine wp_goto ⟨rfl, ⟨ps, i + 1, rl - 64, rc - 64, _, hps, ?d1, ?d2, HR.out.only2 HO.out (by omega), ?d4, ?d5, HB.out.trans (HO.out.1.mono (by omega)), _, _, _, _, _, _, _, _, _, _, _, _, _, _, _, _, _, _, _, _, _, _, _, _, _, _, _, _, _, _, _, _, _, _, _, _, _, _, _, _, _, _, _, _, _, _, _, _, _, _, _, _, rfl⟩, ?_⟩
    case d1 => have := HI.out; omega
    case d2 => rw [blocksN]; exact HS'.out
    case d4 =>
     have h1 : Rd w' (.slice (some ⟨bb, oo, none⟩) rl rc) (bvs (P.drop (64 * i))) := HRD.out.onlyG HO.out (fun a n c e => by simp only [Value.slice.injEq, Option.some.injEq] at e; rw [← e.1]; exact HNE.out _ rfl)
     have h2 := h1.sub 64 rl (off' := oo + 64) (n' := rl - 64) (cap' := rc - 64) h64 (Nat.le_refl _) rfl rfl rfl
     have e2 : ((bvs (P.drop (64 * i))).take rl).drop 64 = bvs (P.drop (64 * (i + 1))) := by
      rw [List.take_of_length_le (by rw [bvs_len, List.length_drop]; have := HI.out; omega)]
      simp [bvs, List.map_drop, List.drop_drop, Nat.mul_add]
     rw [e2] at h2
     exact h2
    case d5 => intro a e; simp only [Option.some.injEq] at e; subst e; exact HNE.out ⟨bb, oo, none⟩ rfl
    show rl - 64 < rl
    omega
  ·obtain rfl : rl = 0 := by omega
   obtain ⟨S, hSe⟩ : ∃ S, S = blocksN P HL0 i := ⟨_, rfl⟩
   have ok := blocksN_ok P HL0_len HL0_lt i
   rw [← hSe] at ok hS
   obtain ⟨SA, hSA⟩ : ∃ A, A = u32a S := ⟨_, rfl⟩
   rw [← hSA] at hS
   have HS := Lib.hid hS
   have HSE := Lib.hid hSe
   have HSA := Lib.hid hSA
   have HI := Lib.hid hi
   clear hS hR hrd hb hne hi hSe hSA h0 HRD
   have HIS := Lib.hid (show SA.toList.all (·.oneCell') = true by rw [HSA.out, Array.all_toList]; exact u32a_one S)
   have HIZ := Lib.hid (show (Tryz.prog.info? 237).map (·.size) = some SA.size by rw [HSA.out]; exact info8 S ok.1)
   go_wp2_with (refine wpList_load_row rfl 237 (.tmp 3) rfl ps rfl 237 SA (0, 0) _ (HS.out.alloc _) Tryz.underlying237 rfl HIZ.out ?_)
   have N0 := Lib.hid (show Blk (wx.alloc (.cells Z32a 214)) wx.heap.size 214 (bvs (outN S 0)).toArray by rw [outN_zero]; exact Blk.new wx _ _)
   have A0 := Lib.hid (show Below wx.heap.size wx (wx.alloc (.cells Z32a 214)) from (Below.refl _ _).alloc (Nat.le_refl _) _)
   obtain ⟨wa, hwa⟩ : ∃ wa, wa = wx.alloc (.cells Z32a 214) := ⟨_, rfl⟩
   rw [← hwa] at N0 A0 ⊢
   have hlt := N0.out.lt
   obtain ⟨po, hpo⟩ : ∃ po, po = wx.heap.size := ⟨_, rfl⟩
   have hbs := HR.out.lt
   rw [← hpo] at N0 A0 hlt hbs ⊢
   have hsx := Lib.hid hpo
   clear hwa hpo
   go_loopg [24] 8 (fun q iv wr => ∃ t : Nat, t + q = 8 ∧ iv = .int .i64 (t : Nat) ∧ Blk wr po 214 (bvs (outN S t)).toArray ∧ Below po wx wr)
   case atStart => exact ⟨0, rfl, rfl, N0.out, A0.out⟩
   case round =>
    obtain ⟨t, ht, rfl, k2, ho⟩ := hrel
    have HT := Lib.hid ht
    have HK2 := Lib.hid k2
    have HO := Lib.hid ho
    by_cases hlt : t < 8
    ·have hltd : decide ((t : Int) < 8) = true := by rw [decide_eq_true_iff]; omega
     have hx := getD_lt32 ok.2 t
     obtain ⟨x, hxe⟩ : ∃ x, x = S.getD t 0 := ⟨_, rfl⟩
     rw [← hxe] at hx
     have q1 : SA[t]? = some (.int .u32 (x : Nat)) := by rw [HSA.out, hxe]; exact u32a_get (by omega)
     have HX := Lib.hid hxe
     have hi := fun w => run_index_arr (P := Tryz.prog) w Tryz.underlying237 rfl Tryz.underlying233 (by kernel_rfl) SA .i64 t hlt _ q1
     have f0 := k2.frozen (4 * t)
     have f1 := k2.frozen (4 * t + 1)
     have f2 := k2.frozen (4 * t + 2)
     have f3 := k2.frozen (4 * t + 3)
     have hcl := fun (j : Nat) (hj : j < 32) => outN_cell (S := S) (t := t) k2 hj
     obtain ⟨y0, c0'⟩ := hcl (4 * t) (by omega)
     obtain ⟨y1, c1'⟩ := hcl (4 * t + 1) (by omega)
     obtain ⟨y2, c2'⟩ := hcl (4 * t + 2) (by omega)
     obtain ⟨y3, c3'⟩ := hcl (4 * t + 3) (by omega)
     clear ht k2 ho hxe q1 hcl
     go_wp2_with fail
     go_roundg (gk - 1)
     case measure => have := HT.out; omega
     case rel =>
      refine ⟨t + 1, by have := HT.out; omega, by go_num, ?_, ?_⟩
      ·have e := outN_step S hlt HX.out
       rw [show x / 16777216 % 256 = x / 16777216 from Nat.mod_eq_of_lt (by omega)] at e
       rw [← e, ← bvs_set, ← bvs_set, ← bvs_set, ← bvs_set]
       exact (((HK2.out.set _ _).set _ _).set _ _).set _ _
      ·exact (((HO.out.setCell (by simp) _).setCell (by simp) _).setCell (by simp) _).setCell (by simp) _
    ·obtain rfl : t = 8 := by omega
     rw [outN_end ok.1] at HK2
     obtain ⟨OA, hOA⟩ : ∃ A, A = (bvs ((S.map (beN 4)).flatten)).toArray := ⟨_, rfl⟩
     rw [← hOA] at HK2
     have hO32 : ((S.map (beN 4)).flatten).length = 32 := by rw [← outN_end ok.1, outN_len]
     have OI := Lib.hid (show (Tryz.prog.info? 214).map (·.size) = some OA.size by rw [hOA]; simp only [List.size_toArray, bvs_len, hO32]; kernel_rfl)
     have OO := Lib.hid (show OA.all (·.oneCell') = true by rw [hOA]; simp [bvs, Value.oneCell'])
     have OZ := Lib.hid (show Z32a.size = OA.size by rw [hOA]; simp only [List.size_toArray, bvs_len, hO32]; kernel_rfl)
     have RR := Lib.hid (show Blk wr w.heap.size 214 Z32a from HR.out.below ho hbs)
     have HBO := Lib.hid (HB.out.trans (ho.mono (Nat.le_of_lt hbs)))
     have HOA := Lib.hid hOA
     clear ht k2 ho hOA hO32
     go_wp2_with (first | (refine wpList_load_row rfl 214 (.tmp 5) rfl po rfl 214 OA (0, 0) _ HK2.out Tryz.underlying214 rfl OI.out ?_) | (refine wpList_store_row rfl 214 (.tmp 2) (.tmp 55) rfl w.heap.size OA rfl rfl 214 Z32a RR.out OI.out OZ.out OO.out ?_))
     simp only [Exit.jump]
     refine bodyPost_ret (results_cell_row rfl _ _ w.heap.size 214 OA (0, 0) _ rfl (setRow_heap _ _ _ _ _ _ RR.out) Tryz.underlying214 rfl OI.out) rfl ⟨?_, ?_⟩
     ·rw [HOA.out, HSE.out, HPP.out]
      have e : i = (padL L).length / 64 := by have := HI.out; rw [HPP.out] at this; omega
      rw [shaF, e]
     ·exact HBO.out.trans (OnlyG.setRow w.heap.size _).1
 ·intro hJ
  have HJ := Lib.hid hJ
  clear hJ
  go_wp2_with fail
  refine (HBG.out _).mono ?_
  rintro e w1 ⟨rfl, hb1⟩
  have ez : (w.alloc (.cells Z32a 214)).heap.size = w.heap.size + 1 := by simp
  rw [ez] at hb1
  have R1 := Lib.hid (show Blk w1 w.heap.size 214 Z32a from (Blk.new w _ _).below hb1 (by omega))
  have HB1 := Lib.hid (((Below.refl w.heap.size w).alloc (Nat.le_refl _) (.cells Z32a 214)).trans (hb1.mono (by omega)))
  have hs1 : w.heap.size + 1 ≤ w1.heap.size := by have := hb1.size; rw [ez] at this; exact this
  have N1 := Lib.hid (Blk.new w1 237 Z8a)
  clear hb1
  go_wp2_with (refine wpList_store_blk rfl 237 (.tmp 3) (.tmp 8) rfl w1.heap.size HA rfl rfl 237 Z8a N1.out IH.out ZH.out OH.out ?_)
  intro w2 m0 mb mo msz
  have S2 := Lib.hid m0
  have HB2 := Lib.hid ((HB1.out.alloc HB1.out.size (.cells Z8a 237)).trans ((mb w1.heap.size (Nat.le_refl _)).mono HB1.out.size))
  have R2 := Lib.hid ((R1.out.alloc (.cells Z8a 237)).below (mb w1.heap.size (Nat.le_refl _)) (by omega))
  have hs2 : w1.heap.size < w2.heap.size := by have : w2.heap.size = w1.heap.size + 1 := by simpa using msz
                                               omega
  obtain ⟨ps, hps⟩ : ∃ p, p = w1.heap.size := ⟨_, rfl⟩
  have hps2 : w.heap.size < ps := by omega
  rw [← hps] at S2 hs2
  rw [← hps]
  clear m0 mb mo msz N1 R1 HB1 hps
  go_wp2_with fail
  refine (HCL.out w2 HB2.out).mono ?_
  rintro e w3 ⟨cv, rfl, hown, hb3⟩
  obtain ⟨y1, y2, y3, rfl⟩ := slOf hown
  have HO3 := Lib.hid hown
  have HB3 := Lib.hid hb3
  clear hown hb3
  go_wp2_with fail
  refine (HTL.out w3).mono ?_
  rintro e w4 ⟨tv, rfl, hown, hb4⟩
  obtain ⟨x1, x2, x3, rfl⟩ := slOf hown
  have HT4 := Lib.hid hown.rd
  have HO4 := Lib.hid (HO3.out.below hb4 (Nat.le_refl _))
  have HB4 := Lib.hid (HB3.out.trans (hb4.mono HB3.out.size))
  clear hown hb4 HO3 HB3
  go_wp2_with (at_builtin; refine wpList_app rfl (.tmp 10) (.tmp 13) 25 rfl w2.heap.size 5 _ 1 bytesE _ (bvs L) rfl HO4.out _ (bvs (tailL n)) rfl HT4.out (bvs_one _) ?c2 ?c3 ?_)
  case c2 =>
   have e := congrArg List.length HPE.out
   rw [List.length_append, bvs_len P] at e
   omega
  case c3 => exact HB4.out.size
  rintro rv w5 hown - hb5
  rw [HPE.out] at hown
  obtain ⟨z1, z2, z3, rfl⟩ := slOf hown
  have HR5 := Lib.hid hown.rd
  have HNE := Lib.hid (show ∀ a n c, Value.slice z1 z2 z3 = .slice (some a) n c → a.block ≠ ps from fun a n' c' e => by
   simp only [Value.slice.injEq] at e
   obtain ⟨rfl, rfl, rfl⟩ := e
   rcases hown.2 with ⟨e, _⟩ | ⟨gg, cp, cur, e, hg, _⟩
   ·cases e
   ·simp only [Value.slice.injEq, Option.some.injEq] at e
    rw [e.1]
    show gg ≠ ps
    omega)
  have S5 := Lib.hid ((show Blk w2 ps 237 HA from S2.out).below (HB4.out.trans hb5) (by omega))
  have R5 := Lib.hid (R2.out.below (HB4.out.trans hb5) R2.out.lt)
  have HB5 := Lib.hid (HB2.out.trans ((HB4.out.trans hb5).mono HB2.out.size))
  clear hown hb5 HO4 HT4 HB4 S2 R2 HB2
  go_wp2_with fail
  go_step3
  simp only [Exit.then]
  apply_assumption
  refine HJ.out _ _ ⟨ps, 0, z2, z3, z1, hps2, ?_, ?_, R5.out, ?_, ?_, HB5.out, _, _, _, _, _, _, _, _, _, _, _, _, _, _, _, _, _, _, _, _, _, _, _, _, _, _, _, _, _, _, _, _, _, _, _, _, _, _, _, _, _, _, _, _, _, _, _, _, _, _, _, _, rfl⟩
  ·obtain ⟨a', c', e, -, -, -⟩ := HR5.out
   simp only [Value.slice.injEq] at e
   rw [e.2.1, bvs_len]; rfl
  ·have e : blocksN P HL0 0 = HL0 := rfl
   rw [e]
   have := S5.out
   rw [HAE.out] at this
   exact this
  ·exact HR5.out
  ·intro a e; exact HNE.out a _ _ (by rw [e])
end Go.Proofs.YtngealmhgkoaiaaGreat
/- Walks: node.LeafBytes, tree.rightLeaf, tree.held. -/
namespace Go.Proofs.YtngealmhgkoaiaaGreat
open Go.RowKit WireM
set_option linter.unusedVariables false
end Go.Proofs.YtngealmhgkoaiaaGreat
/- Walks: tree.held. -/
namespace Go.Proofs.YtngealmhgkoaiaaGreat
open Go.RowKit WireM
set_option linter.unusedVariables false
end Go.Proofs.YtngealmhgkoaiaaGreat
