/- Walks: gcm.Seal, gcm.Open. -/
import Derived.Test.YtfpjpakjlhidkaaGcmTag
namespace Go.Proofs.Ytfpjpakjlhidkaa
open Go.RowKit AesM GcmM GcmB
set_option linter.unusedVariables false
theorem mk_lt {K N : List Nat} (bK : ∀ x ∈ K, x < 256) (bN : ∀ x ∈ N, x < 256) (lk : K.length = 16) (ln : N.length = 12) (n : Nat) : (mk K N n).length = 16 ∧ ∀ x ∈ mk K N n, x < 256 :=
  blk_lt bK lk (M := N ++ beN 4 n) (by
    intro y hy
    rcases List.mem_append.1 hy with hy | hy
    · exact bN y hy
    · exact beN_lt _ _ y hy) (by rw [List.length_append, ln, beN_len])
theorem maskF_len (K N T : List Nat) : (maskF K N T).length = T.length := by simp [maskF]
theorem maskF_lt {K N T : List Nat} (bK : ∀ x ∈ K, x < 256) (bN : ∀ x ∈ N, x < 256) (lk : K.length = 16) (ln : N.length = 12) (bT : ∀ x ∈ T, x < 256) : ∀ x ∈ maskF K N T, x < 256 := by
  intro n hn
  obtain ⟨j, _, rfl⟩ := List.mem_map.1 hn
  exact Nat.xor_lt_two_pow (n := 8) (getD_lt bT (by omega) _) (getD_lt (mk_lt bK bN lk ln _).2 (by omega) _)
theorem tagF_len (K N S M : List Nat) : (tagF K N S M).length = 16 := by simp only [tagF, beN_len]
theorem tagF_lt (K N S M : List Nat) : ∀ x ∈ tagF K N S M, x < 256 := beN_lt _ _
def sealF (K N T M : List Nat) : List Nat := maskF K N T ++ tagF K N (maskF K N T) M
set_option maxRecDepth 100000 in
set_option maxHeartbeats 2000000 in
theorem gseal_on (v1 v2 v3 v4 : Value) (K N T M : List Nat) (w : World) (h1 : Rd w v1 (bvs K)) (h2 : Rd w v2 (bvs N)) (h3 : Rd w v3 (bvs T)) (h4 : Rd w v4 (bvs M)) (bK : ∀ x ∈ K, x < 256) (bN : ∀ x ∈ N, x < 256) (bT : ∀ x ∈ T, x < 256) (bM : ∀ x ∈ M, x < 256) (lk : K.length = 16) (ln : N.length = 12) (lt : T.length ≤ 100000) (lm : M.length ≤ 100000) :
    Calls Try.prog 24 #[v1, v2, v3, v4] w fun e w' => ∃ u, e = .returned (.tuple #[u, .bool true]) ∧ Own w' w.heap.size 5 u (bvs (sealF K N T M)) ∧ Below w.heap.size w w' := by
  have MY := gmay_any v1 v2 K N w h1 h2
  rw [decide_eq_true ⟨lk, ln⟩] at MY
  have MD := masked_any v1 v2 v3 K N T w h1 h2 h3 bK bN bT lk ln lt
  have TG := fun (u : Value) (W : World) (hb : Below w.heap.size w W) (hu : Rd W u (bvs (maskF K N T))) => tag_any v1 v2 u v4 K N (maskF K N T) M W (h1.below hb (Nat.le_refl _)) (h2.below hb (Nat.le_refl _)) hu (h4.below hb (Nat.le_refl _)) bK bN (maskF_lt bK bN lk ln bT) bM lk ln (by rw [maskF_len]; exact lt) lm
  have hv1 : ∃ a b c, v1 = .slice a b c := by obtain ⟨a, c, e, _⟩ := h1; exact ⟨a, _, c, e⟩
  have hv2 : ∃ a b c, v2 = .slice a b c := by obtain ⟨a, c, e, _⟩ := h2; exact ⟨a, _, c, e⟩
  have hv3 : ∃ a b c, v3 = .slice a b c := by obtain ⟨a, c, e, _⟩ := h3; exact ⟨a, _, c, e⟩
  have hv4 : ∃ a b c, v4 = .slice a b c := by obtain ⟨a, c, e, _⟩ := h4; exact ⟨a, _, c, e⟩
  obtain ⟨a1, b1, c1, rfl⟩ := hv1
  obtain ⟨a2, b2, c2, rfl⟩ := hv2
  obtain ⟨a3, b3, c3, rfl⟩ := hv3
  obtain ⟨a4, b4, c4, rfl⟩ := hv4
  have HMY := Lib.hid MY
  have HMD := Lib.hid MD
  have HTG := Lib.hid TG
  clear MY MD TG h1 h2 h3 h4
  go_enter Try.func24, Try.ntmps24
  go_wp2_with fail
  refine (HMY.out).mono ?_
  rintro e w' ⟨rfl, rfl⟩
  go_wp2_with fail
  refine (HMD.out).mono ?_
  rintro e w1 ⟨u, rfl, hown, hb⟩
  obtain ⟨s1, s2, s3, rfl⟩ := slOf hown
  have HO := Lib.hid hown
  have HB := Lib.hid hb
  clear hown hb
  go_wp2_with fail
  refine (HTG.out _ _ HB.out HO.out.rd).mono ?_
  rintro e w2 ⟨u2, rfl, hown2, hb2⟩
  obtain ⟨t1, t2, t3, rfl⟩ := slOf hown2
  have HO1 := Lib.hid (HO.out.below hb2 (Nat.le_refl _))
  have HO2 := Lib.hid hown2
  have HB2 := Lib.hid (HB.out.trans (hb2.mono HB.out.size))
  clear hown2 hb2 HO
  go_wp2_with (at_builtin; refine wpList_app rfl (.tmp 19) (.tmp 24) 28 rfl w'.heap.size 5 _ 1 bytesE _ (bvs (maskF K N T)) rfl HO1.out _ (bvs (tagF K N (maskF K N T) M)) rfl HO2.out.rd (bvs_one _) ?c2 ?c3 ?_)
  case c2 => rw [bvs_len, bvs_len, maskF_len, tagF_len]; omega
  case c3 => exact HB2.out.size
  rintro v5 w3 hown3 - hb3
  rw [← bvs_append] at hown3
  obtain ⟨r1, r2, r3, rfl⟩ := slOf hown3
  have HO3 := Lib.hid hown3
  have HB3 := Lib.hid (HB2.out.trans hb3)
  clear hown3 hb3
  go_wp2_with fail
  go_ret2
  exact ⟨_, rfl, HO3.out, HB3.out⟩
set_option maxRecDepth 100000 in
set_option maxHeartbeats 2000000 in
theorem gseal_off (v1 v2 v3 v4 : Value) (K N : List Nat) (w : World) (h1 : Rd w v1 (bvs K)) (h2 : Rd w v2 (bvs N)) (hl : ¬ (K.length = 16 ∧ N.length = 12)) (hv3 : ∃ a b c, v3 = .slice a b c) (hv4 : ∃ a b c, v4 = .slice a b c) :
    Calls Try.prog 24 #[v1, v2, v3, v4] w fun e w' => e = .returned (.tuple #[.slice none 0 0, .bool false]) ∧ w' = w := by
  have MY := gmay_any v1 v2 K N w h1 h2
  rw [decide_eq_false hl] at MY
  have hv1 : ∃ a b c, v1 = .slice a b c := by obtain ⟨a, c, e, _⟩ := h1; exact ⟨a, _, c, e⟩
  have hv2 : ∃ a b c, v2 = .slice a b c := by obtain ⟨a, c, e, _⟩ := h2; exact ⟨a, _, c, e⟩
  obtain ⟨a1, b1, c1, rfl⟩ := hv1
  obtain ⟨a2, b2, c2, rfl⟩ := hv2
  obtain ⟨a3, b3, c3, rfl⟩ := hv3
  obtain ⟨a4, b4, c4, rfl⟩ := hv4
  have HMY := Lib.hid MY
  clear MY h1 h2 hl
  go_enter Try.func24, Try.ntmps24
  go_wp2_with fail
  refine (HMY.out).mono ?_
  rintro e w' ⟨rfl, rfl⟩
  go_wp2_with fail
  go_ret2
  exact ⟨rfl, rfl⟩
/-- what is left of two texts held against one another, or-ed -/
def orF (A B : List Nat) (i : Nat) : Nat := (List.range i).foldl (fun d j => d ||| (A.getD j 0 ^^^ B.getD j 0)) 0
theorem orF_succ (A B : List Nat) (i : Nat) : orF A B (i + 1) = orF A B i ||| (A.getD i 0 ^^^ B.getD i 0) := by simp [orF, List.range_succ]
theorem orF_lt {A B : List Nat} (hA : ∀ n ∈ A, n < 256) (hB : ∀ n ∈ B, n < 256) (i : Nat) : orF A B i < 256 := by
  induction i with
  | zero => simp [orF]
  | succ i ih => rw [orF_succ]; exact Nat.or_lt_two_pow (n := 8) ih (Nat.xor_lt_two_pow (n := 8) (getD_lt hA (by omega) _) (getD_lt hB (by omega) _))
theorem xor_nil {a b : Nat} : a ^^^ b = 0 ↔ a = b := by
  constructor
  · intro h
    have : a ^^^ b ^^^ b = 0 ^^^ b := by rw [h]
    rwa [Nat.xor_assoc, Nat.xor_self, Nat.xor_zero, Nat.zero_xor] at this
  · rintro rfl; exact Nat.xor_self _
theorem orF_zero {A B : List Nat} (i : Nat) : orF A B i = 0 ↔ ∀ j, j < i → A.getD j 0 = B.getD j 0 := by
  induction i with
  | zero => simp [orF]
  | succ i ih =>
    rw [orF_succ, Nat.or_eq_zero_iff, ih]
    constructor
    · rintro ⟨h1, h2⟩ j hj
      rcases Nat.lt_or_ge j i with h | h
      · exact h1 j h
      · obtain rfl : j = i := by omega
        exact xor_nil.1 h2
    · intro h
      exact ⟨fun j hj => h j (by omega), xor_nil.2 (h i (by omega))⟩
theorem u8_or_nat (x y : Nat) (hx : x < 256) (hy : y < 256) : bits .or .u8 (x : Int) (y : Int) = ((x ||| y : Nat) : Int) := by
  have h2 : x ||| y < 2 ^ 8 := Nat.or_lt_two_pow (by omega) (by omega)
  show IntKind.u8.wrap ((BitVec.ofInt 8 (x : Int) ||| BitVec.ofInt 8 (y : Int)).toNat : Int) = _
  rw [BitVec.toNat_or, BitVec.ofInt_natCast, BitVec.ofInt_natCast, BitVec.toNat_ofNat, BitVec.toNat_ofNat, Nat.mod_eq_of_lt (show x < 2 ^ 8 from hx), Nat.mod_eq_of_lt (show y < 2 ^ 8 from hy), IntKind.wrap_u8]
  omega
theorem orF_all {A B : List Nat} (hl : A.length = B.length) (n : Nat) (hn : A.length = n) : orF A B n = 0 ↔ A = B := by
  rw [orF_zero]
  constructor
  · intro h; exact ext_getD hl fun j hj => h j (by omega)
  · rintro rfl j _; rfl
set_option maxRecDepth 100000 in
set_option maxHeartbeats 2000000 in
theorem gopen_off (v1 v2 v3 v4 : Value) (K N S : List Nat) (w : World) (h1 : Rd w v1 (bvs K)) (h2 : Rd w v2 (bvs N)) (h3 : Rd w v3 (bvs S)) (hl : ¬ (K.length = 16 ∧ N.length = 12)) (ls : S.length ≤ 100000) (hv4 : ∃ a b c, v4 = .slice a b c) :
    Calls Try.prog 25 #[v1, v2, v3, v4] w fun e w' => e = .returned (.tuple #[.slice none 0 0, .bool false]) ∧ w' = w := by
  have MY := gmay_any v1 v2 K N w h1 h2
  rw [decide_eq_false hl] at MY
  have hv1 : ∃ a b c, v1 = .slice a b c := by obtain ⟨a, c, e, _⟩ := h1; exact ⟨a, _, c, e⟩
  have hv2 : ∃ a b c, v2 = .slice a b c := by obtain ⟨a, c, e, _⟩ := h2; exact ⟨a, _, c, e⟩
  have hv3 : ∃ a c, v3 = .slice a S.length c := by obtain ⟨a, c, e, _⟩ := h3; exact ⟨a, c, by rw [e, bvs_len]⟩
  obtain ⟨a1, b1, c1, rfl⟩ := hv1
  obtain ⟨a2, b2, c2, rfl⟩ := hv2
  obtain ⟨a3, c3, rfl⟩ := hv3
  obtain ⟨a4, b4, c4, rfl⟩ := hv4
  obtain ⟨n, hn⟩ : ∃ n, n = S.length := ⟨_, rfl⟩
  rw [← hn] at ls ⊢
  have HMY := Lib.hid MY
  clear MY h1 h2 h3 hl hn
  go_enter Try.func25, Try.ntmps25
  go_wp2_with fail
  refine (HMY.out).mono ?_
  rintro e w' ⟨rfl, rfl⟩
  go_wp2_with fail
  all_goals (go_ret2; exact ⟨rfl, rfl⟩)
set_option maxRecDepth 100000 in
set_option maxHeartbeats 2000000 in
theorem gopen_short (v1 v2 v3 v4 : Value) (K N S : List Nat) (w : World) (h1 : Rd w v1 (bvs K)) (h2 : Rd w v2 (bvs N)) (h3 : Rd w v3 (bvs S)) (hl : K.length = 16 ∧ N.length = 12) (ls : S.length < 16) (hv4 : ∃ a b c, v4 = .slice a b c) :
    Calls Try.prog 25 #[v1, v2, v3, v4] w fun e w' => e = .returned (.tuple #[.slice none 0 0, .bool false]) ∧ w' = w := by
  have MY := gmay_any v1 v2 K N w h1 h2
  rw [decide_eq_true hl] at MY
  have hv1 : ∃ a b c, v1 = .slice a b c := by obtain ⟨a, c, e, _⟩ := h1; exact ⟨a, _, c, e⟩
  have hv2 : ∃ a b c, v2 = .slice a b c := by obtain ⟨a, c, e, _⟩ := h2; exact ⟨a, _, c, e⟩
  have hv3 : ∃ a c, v3 = .slice a S.length c := by obtain ⟨a, c, e, _⟩ := h3; exact ⟨a, c, by rw [e, bvs_len]⟩
  obtain ⟨a1, b1, c1, rfl⟩ := hv1
  obtain ⟨a2, b2, c2, rfl⟩ := hv2
  obtain ⟨a3, c3, rfl⟩ := hv3
  obtain ⟨a4, b4, c4, rfl⟩ := hv4
  obtain ⟨n, hn⟩ : ∃ n, n = S.length := ⟨_, rfl⟩
  rw [← hn] at ls ⊢
  have HMY := Lib.hid MY
  have hlt : decide ((n : Int) - 16 < 0) = true := by rw [decide_eq_true_iff]; omega
  clear MY h1 h2 h3 hl hn
  go_enter Try.func25, Try.ntmps25
  go_wp2_with fail
  refine (HMY.out).mono ?_
  rintro e w' ⟨rfl, rfl⟩
  go_wp2_with fail
  all_goals (go_ret2; exact ⟨rfl, rfl⟩)
set_option maxRecDepth 100000 in
set_option maxHeartbeats 4000000 in
theorem gopen_on (v1 v2 v3 v4 : Value) (K N S M : List Nat) (w : World) (h1 : Rd w v1 (bvs K)) (h2 : Rd w v2 (bvs N)) (h3 : Rd w v3 (bvs S)) (h4 : Rd w v4 (bvs M)) (bK : ∀ x ∈ K, x < 256) (bN : ∀ x ∈ N, x < 256) (bS : ∀ x ∈ S, x < 256) (bM : ∀ x ∈ M, x < 256) (lk : K.length = 16) (ln : N.length = 12) (ls : 16 ≤ S.length) (ls2 : S.length ≤ 100000) (lm : M.length ≤ 100000) :
    Calls Try.prog 25 #[v1, v2, v3, v4] w fun e w' => (if S.drop (S.length - 16) = tagF K N (S.take (S.length - 16)) M then ∃ u, e = .returned (.tuple #[u, .bool true]) ∧ Own w' w.heap.size 5 u (bvs (maskF K N (S.take (S.length - 16)))) else e = .returned (.tuple #[.slice none 0 0, .bool false])) ∧ Below w.heap.size w w' := by
  have MY := gmay_any v1 v2 K N w h1 h2
  rw [decide_eq_true ⟨lk, ln⟩] at MY
  obtain ⟨C, hC⟩ : ∃ C, C = S.take (S.length - 16) := ⟨_, rfl⟩
  obtain ⟨D, hD⟩ : ∃ D, D = S.drop (S.length - 16) := ⟨_, rfl⟩
  have bC : ∀ x ∈ C, x < 256 := by rw [hC]; intro x hx; exact bS x (List.mem_of_mem_take hx)
  have bD : ∀ x ∈ D, x < 256 := by rw [hD]; intro x hx; exact bS x (List.mem_of_mem_drop hx)
  have lC : C.length = S.length - 16 := by rw [hC, List.length_take]; omega
  have lD : D.length = 16 := by rw [hD, List.length_drop]; omega
  rw [← hC, ← hD]
  have hv1 : ∃ a b c, v1 = .slice a b c := by obtain ⟨a, c, e, _⟩ := h1; exact ⟨a, _, c, e⟩
  have hv2 : ∃ a b c, v2 = .slice a b c := by obtain ⟨a, c, e, _⟩ := h2; exact ⟨a, _, c, e⟩
  have hv3 : ∃ b off c, v3 = .slice (some ⟨b, off, none⟩) S.length c ∧ S.length ≤ c ∧ b < w.heap.size := by
    rcases h3.lt with q3 | ⟨b, off, c, e, q4⟩
    · exfalso
      have : (bvs S).length = 0 := by rw [q3]; rfl
      rw [bvs_len] at this; omega
    · obtain ⟨a', c', e', q1, _⟩ := h3
      rw [e] at e'
      simp only [Value.slice.injEq] at e'
      exact ⟨b, off, c, by rw [e, bvs_len], by rw [bvs_len] at q1; omega, q4⟩
  have hv4 : ∃ a b c, v4 = .slice a b c := by obtain ⟨a, c, e, _⟩ := h4; exact ⟨a, _, c, e⟩
  obtain ⟨a1, b1, c1, rfl⟩ := hv1
  obtain ⟨a2, b2, c2, rfl⟩ := hv2
  obtain ⟨sb, so, c3, rfl, hsc, hsb⟩ := hv3
  obtain ⟨a4, b4, c4, rfl⟩ := hv4
  obtain ⟨n, hn⟩ : ∃ n, n = S.length - 16 := ⟨_, rfl⟩
  obtain ⟨n2, hn2⟩ : ∃ n2, n2 = S.length := ⟨_, rfl⟩
  have rC := h3.sub 0 n (off' := so) (n' := n) (cap' := c3) (by omega) (by omega) (by omega) (by omega) (by omega)
  rw [show ((bvs S).take n).drop 0 = bvs C by rw [hC, hn]; simp [bvs, List.map_take]] at rC
  have hcell : ∀ j, j < 16 → w.cell? ⟨sb, so + (n + j), none⟩ = some (.int .u8 (D.getD j 0 : Nat)) := by
    intro j hj
    obtain ⟨b, off, e1, e2, e3⟩ := h3.get3 (bvs_getD (L := S) (i := n + j) (by omega))
    simp only [Option.some.injEq, Addr.mk.injEq, and_true] at e1
    obtain ⟨rfl, rfl⟩ := e1
    rw [e3, hD]
    have : S.getD (n + j) 0 = (S.drop (S.length - 16)).getD j 0 := by rw [List.getD_eq_getElem?_getD, List.getD_eq_getElem?_getD, List.getElem?_drop, hn]
    rw [this]
  have TG := fun (W : World) (hb : Below w.heap.size w W) => tag_any (.slice a1 b1 c1) (.slice a2 b2 c2) (.slice (some ⟨sb, so, none⟩) n c3) (.slice a4 b4 c4) K N C M W (h1.below hb (Nat.le_refl _)) (h2.below hb (Nat.le_refl _)) (rC.below hb (Nat.le_refl _)) (h4.below hb (Nat.le_refl _)) bK bN bC bM lk ln (by rw [lC]; omega) lm
  have MD := fun (W : World) (hb : Below w.heap.size w W) => masked_any (.slice a1 b1 c1) (.slice a2 b2 c2) (.slice (some ⟨sb, so, none⟩) n c3) K N C W (h1.below hb (Nat.le_refl _)) (h2.below hb (Nat.le_refl _)) (rC.below hb (Nat.le_refl _)) bK bN bC lk ln (by rw [lC]; omega)
  rw [← hn2] at hsc ⊢
  have hn3 : (n2 : Int) - 16 = (n : Int) := by omega
  have hn2l : n + 16 = n2 := by omega
  have hlt : decide ((n : Int) < 0) = false := by rw [decide_eq_false_iff_not]; omega
  obtain ⟨TT, hTT⟩ : ∃ TT, TT = tagF K N C M := ⟨_, rfl⟩
  have bT : ∀ x ∈ TT, x < 256 := by rw [hTT]; exact tagF_lt _ _ _ _
  have lT : TT.length = 16 := by rw [hTT, tagF_len]
  rw [← hTT] at TG ⊢
  have hn100 : n2 ≤ 100000 := by omega
  have HMY := Lib.hid MY
  have HMD := Lib.hid MD
  have HTG := Lib.hid TG
  have HCE := Lib.hid hcell
  clear MY TG MD h1 h2 h3 h4 rC hcell hC hD hn hn2 hTT lC ls ls2 bS
  obtain ⟨R, hR⟩ : ∃ R : Ending → World → Prop, R = fun e w' => (if D = TT then ∃ u, e = .returned (.tuple #[u, .bool true]) ∧ Own w' w.heap.size 5 u (bvs (maskF K N C)) else e = .returned (.tuple #[.slice none 0 0, .bool false])) ∧ Below w.heap.size w w' := ⟨_, rfl⟩
  rw [← hR]
  have HR := Lib.hid hR
  clear hR
  go_enter Try.func25, Try.ntmps25
  go_wp2_with fail
  refine (HMY.out).mono ?_
  rintro e w' ⟨rfl, rfl⟩
  go_wp2_with fail
  refine (HTG.out _ (Below.refl _ _)).mono ?_
  rintro e w1 ⟨u, rfl, hown, hb⟩
  obtain ⟨tg, tc, rfl⟩ : ∃ tg tc, u = .slice (some ⟨tg, 0, none⟩) 16 tc := by
    rcases hown.form with e | ⟨h, c, e⟩
    · exfalso
      obtain ⟨a', c', e', _⟩ := hown.rd
      rw [e] at e'
      simp only [Value.slice.injEq] at e'
      have := e'.2.1
      rw [bvs_len, lT] at this
      cases this
    · exact ⟨h, c, by rw [e, bvs_len, lT]⟩
  have hcell2 := hown.at.1
  have hcell1 : ∀ j, j < 16 → w1.cell? ⟨sb, so + (n + j), none⟩ = some (.int .u8 (D.getD j 0 : Nat)) := fun j hj => (hb.cell (p := ⟨sb, so + (n + j), none⟩) hsb).trans (HCE.out j hj)
  have HCE1 := Lib.hid hcell1
  have HCE2 := Lib.hid hcell2
  have HB := Lib.hid hb
  clear hcell1 hcell2 hb hown HCE
  go_wp2_with fail
  go_loopg [11, 33] 16 (fun q dv iv wr => ∃ i : Nat, i + q = 16 ∧ iv = .int .i64 (i : Nat) ∧ dv = .int .u8 (orF TT D i : Nat) ∧ wr = w1)
  case atStart => exact ⟨0, rfl, rfl, rfl, rfl⟩
  case round =>
    obtain ⟨i, hi, rfl, rfl, rfl⟩ := hrel
    have HI := Lib.hid hi
    by_cases h16 : i < 16
    · have h16' : decide ((i : Int) < 16) = true := by rw [decide_eq_true_iff]; omega
      obtain ⟨x, hx⟩ : ∃ x, x = TT.getD i 0 := ⟨_, rfl⟩
      obtain ⟨y, hy⟩ : ∃ y, y = D.getD i 0 := ⟨_, rfl⟩
      obtain ⟨d, hd⟩ : ∃ d, d = orF TT D i := ⟨_, rfl⟩
      have q1 := HCE2.out i (.int .u8 (x : Nat)) (by rw [bvs_getD (by omega), hx])
      have q2 := HCE1.out i h16
      rw [← hy] at q2
      have x1 : x < 256 := by rw [hx]; exact getD_lt bT (by omega) _
      have y1 : y < 256 := by rw [hy]; exact getD_lt bD (by omega) _
      have d1 : d < 256 := by rw [hd]; exact orF_lt bT bD _
      have hxy := u8_xor_nat x y x1 y1
      have hdx := u8_or_nat d (x ^^^ y) d1 (Nat.xor_lt_two_pow (n := 8) x1 y1)
      have hso : (so : Int) + ((n : Int) + (i : Int)) = ((so + (n + i) : Nat) : Int) := by omega
      have HN := Lib.hid (show orF TT D (i + 1) = d ||| (x ^^^ y) by rw [orF_succ, hd, hx, hy])
      obtain ⟨xy, hxy'⟩ : ∃ xy, xy = x ^^^ y := ⟨_, rfl⟩
      rw [← hxy'] at hxy hdx HN
      obtain ⟨dn, hdn⟩ : ∃ dn, dn = d ||| xy := ⟨_, rfl⟩
      rw [← hdn] at hdx HN
      rw [← hd]
      clear hx hy hd hi hxy' hdn
      go_wp2_with fail
      go_roundg (gk - 1)
      case measure => have := HI.out; omega
      case rel => exact ⟨i + 1, by have := HI.out; omega, by go_num, by rw [HN.out], rfl⟩
    · obtain rfl : i = 16 := by omega
      have hz := orF_all (A := TT) (B := D) (by omega) 16 lT
      obtain ⟨d, hd⟩ : ∃ d, d = orF TT D 16 := ⟨_, rfl⟩
      rw [← hd] at hz ⊢
      clear hi hd HCE1 HCE2
      by_cases hE : D = TT
      · obtain rfl : d = 0 := hz.2 hE.symm
        have HE := Lib.hid hE
        clear hz hE
        go_wp2_with fail
        refine (HMD.out _ HB.out).mono ?_
        rintro e w3 ⟨u, rfl, hown, hb3⟩
        obtain ⟨t1, t2, t3, rfl⟩ := slOf hown
        have HO := Lib.hid (hown.mono HB.out.size)
        have HB3 := Lib.hid (HB.out.trans (hb3.mono HB.out.size))
        clear hown hb3
        go_wp2_with fail
        rw [HR.out]
        show (if D = TT then _ else _) ∧ _
        rw [if_pos HE.out]
        exact ⟨⟨_, rfl, HO.out⟩, HB3.out⟩
      · have hd0 : d ≠ 0 := fun h => hE (hz.1 h).symm
        have hq : ((d : Int) == 0) = false := by rw [beq_eq_false_iff_ne]; omega
        have hq2 : ¬ ((d : Int) = 0) := by omega
        have HE := Lib.hid hE
        clear hz hE
        go_wp2_with fail
        rw [HR.out]
        show (if D = TT then _ else _) ∧ _
        rw [if_neg HE.out]
        exact ⟨rfl, HB.out⟩
end Go.Proofs.Ytfpjpakjlhidkaa
