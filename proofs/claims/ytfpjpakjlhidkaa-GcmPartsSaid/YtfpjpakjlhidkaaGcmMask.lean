/- Walks: slices.Clone, gcm.may, gcm.mask. -/
import Derived.Test.YtfpjpakjlhidkaaGcmOut
import Derived.Test.YtfpjpakjlhidkaaAesBlock
import Derived.Test.YtfpjpakjlhidkaaAesLaw1
import Derived.WalkSpells
import Derived.WalkLawsBesides
namespace Go.Proofs.Ytfpjpakjlhidkaa
open Go.RowKit AesM GcmM GcmB
set_option linter.unusedVariables false
theorem bytesE : Elem Try.prog 28 5 (.int .u8 0) 1 := ⟨Try.underlying28, by kernel_rfl, rfl, by omega⟩
/-- bytes that are read: nil or not -/
theorem Rd.nilOr {w : World} {v : Value} {xs : List Value} (h : Rd w v xs) : v = .slice none 0 0 ∨ ∃ a cap, v = .slice (some a) xs.length cap := by
  obtain ⟨a, cap, rfl, h1, h2, ⟨rfl, h3⟩ | ⟨b, off, rfl, _⟩⟩ := h
  · cases a with
    | none => left; rw [h3 rfl]; rfl
    | some a => exact .inr ⟨a, cap, rfl⟩
  · exact .inr ⟨_, cap, rfl⟩
set_option maxRecDepth 100000 in
set_option maxHeartbeats 1000000 in
theorem clone_any (v : Value) (L : List Nat) (w : World) (h : Rd w v (bvs L)) (hn : L.length < 1099511627776) :
    Calls Try.prog 45 #[v] w fun e w' => ∃ v', e = .returned v' ∧ Own w' w.heap.size 5 v' (bvs L) ∧ Below w.heap.size w w' := by
  have hl : (bvs L).length = L.length := bvs_len L
  have h1 := bvs_one L
  rcases h.nilOr with rfl | ⟨a, cap, rfl⟩
  · have h0 : bvs L = [] := by
      obtain ⟨a, cap, e, _⟩ := h
      simp only [Value.slice.injEq] at e
      exact List.eq_nil_of_length_eq_zero e.2.1.symm
    rw [h0]
    clear h h0 hl h1
    have q : ∀ w, (binOp .eql 28 (.slice none 0 0) (.slice none 0 0)).run Try.prog w = .ok (.bool true) w := fun w => Lib.run_eql_slice_nil w _ 5 none 0 0 0 0 Try.underlying28
    go_enter Try.func45, Try.ntmps45
    go_wp2_with fail
    go_ret
    exact ⟨_, rfl, Own.nil _ _ _, Below.refl _ _⟩
  · obtain ⟨xs, hxs⟩ : ∃ xs, xs = bvs L := ⟨_, rfl⟩
    rw [← hxs] at h h1 hl ⊢
    have hx : xs.length < 1099511627776 := by omega
    have HR := Lib.hid h
    have H1 := Lib.hid h1
    clear h h1 hl hxs hn
    have q : ∀ w, (binOp .eql 28 (.slice (some a) xs.length cap) (.slice none 0 0)).run Try.prog w = .ok (.bool false) w := fun w => Lib.run_eql_slice_nil w _ 5 (some a) _ _ 0 0 Try.underlying28
    go_enter Try.func45, Try.ntmps45
    go_wp2_with (at_builtin; refine wpList_app rfl (.tmp 5) (.tmp 6) 28 rfl w.heap.size 5 _ 1 bytesE _ [] rfl (Own.lit0 rfl (Nat.le_refl _)) _ xs rfl (HR.out.alloc _) H1.out ?c2 ?c3 ?_)
    case c2 => simpa using hx
    case c3 => simp
    rintro v' w2 hown - hb
    have HO := Lib.hid hown
    have HB := Lib.hid hb
    clear hown hb
    go_wp2_with fail
    go_ret
    exact ⟨_, rfl, HO.out, ((Below.refl _ _).alloc (Nat.le_refl _) _).trans HB.out⟩

theorem be4 (n : Nat) : beN 4 n = [n / 16777216 % 256, n / 65536 % 256, n / 256 % 256, n % 256] := by
  simp only [beN, Nat.div_div_eq_div_mul, Nat.reduceMul, List.nil_append, List.cons_append]
set_option maxRecDepth 100000 in
set_option maxHeartbeats 1000000 in
theorem gmay_any (v1 v2 : Value) (K N : List Nat) (w : World) (h1 : Rd w v1 (bvs K)) (h2 : Rd w v2 (bvs N)) :
    Calls Try.prog 36 #[v1, v2] w fun e w' => e = .returned (.bool (decide (K.length = 16 ∧ N.length = 12))) ∧ w' = w := by
  obtain ⟨k, hk⟩ : ∃ k, k = K.length := ⟨_, rfl⟩
  obtain ⟨n, hn⟩ : ∃ n, n = N.length := ⟨_, rfl⟩
  have hv1 : ∃ a c, v1 = .slice a k c := by obtain ⟨a, c, e, _⟩ := h1; exact ⟨a, c, by rw [e, bvs_len, hk]⟩
  have hv2 : ∃ a c, v2 = .slice a n c := by obtain ⟨a, c, e, _⟩ := h2; exact ⟨a, c, by rw [e, bvs_len, hn]⟩
  obtain ⟨a1, c1, rfl⟩ := hv1
  obtain ⟨a2, c2, rfl⟩ := hv2
  rw [← hk, ← hn]
  clear h1 h2 hk hn
  by_cases k1 : k = 16
  · have e1 : ((k : Int) == 16) = true := by rw [beq_iff_eq]; omega
    by_cases k2 : n = 12
    · have e2 : ((n : Int) == 12) = true := by rw [beq_iff_eq]; omega
      rw [decide_eq_true ⟨k1, k2⟩]
      clear k1 k2
      go_enter Try.func36, Try.ntmps36
      go_wp2_with fail
      go_ret
      exact ⟨rfl, rfl⟩
    · have e2 : ((n : Int) == 12) = false := by rw [beq_eq_false_iff_ne]; omega
      rw [decide_eq_false (fun h => k2 h.2)]
      clear k1 k2
      go_enter Try.func36, Try.ntmps36
      go_wp2_with fail
      go_ret
      exact ⟨rfl, rfl⟩
  · have e1 : ((k : Int) == 16) = false := by rw [beq_eq_false_iff_ne]; omega
    rw [decide_eq_false (fun h => k1 h.1)]
    clear k1
    go_enter Try.func36, Try.ntmps36
    go_wp2_with fail
    go_ret
    exact ⟨rfl, rfl⟩
set_option maxRecDepth 100000 in
set_option maxHeartbeats 2000000 in
theorem gmask_any (v1 v2 : Value) (K N : List Nat) (n : Nat) (w : World) (h1 : Rd w v1 (bvs K)) (h2 : Rd w v2 (bvs N)) (hK : ∀ x ∈ K, x < 256) (hN : ∀ x ∈ N, x < 256) (lk : K.length = 16) (ln : N.length = 12) (hn : n < 4294967296) :
    Calls Try.prog 47 #[v1, v2, .int .u32 (n : Nat)] w fun e w' => ∃ u, e = .returned u ∧ Own w' w.heap.size 5 u (bvs (blk K (N ++ beN 4 n))) ∧ Below w.heap.size w w' := by
  have hv1 : ∃ a b c, v1 = .slice a b c := by obtain ⟨a, c, e, _⟩ := h1; exact ⟨a, _, c, e⟩
  have CL := clone_any v2 N w h2 (by omega)
  have BL := fun (u : Value) (w' : World) (hb : Below w.heap.size w w') (hu : Rd w' u (bvs (N ++ beN 4 n))) => block_any v1 u K (N ++ beN 4 n) w' (h1.below hb (Nat.le_refl _)) hu hK (by
    intro x hx
    rcases List.mem_append.1 hx with hx | hx
    · exact hN x hx
    · exact beN_lt _ _ x hx) lk (by rw [List.length_append, ln, beN_len])
  have hv2 : ∃ a b c, v2 = .slice a b c := by obtain ⟨a, c, e, _⟩ := h2; exact ⟨a, _, c, e⟩
  obtain ⟨a1, b1, c1, rfl⟩ := hv1
  obtain ⟨a2, b2, c2, rfl⟩ := hv2
  have hbe := be4 n
  obtain ⟨x0, e0⟩ : ∃ x, x = n / 16777216 % 256 := ⟨_, rfl⟩
  obtain ⟨x1, e1⟩ : ∃ x, x = n / 65536 % 256 := ⟨_, rfl⟩
  obtain ⟨x2, e2⟩ : ∃ x, x = n / 256 % 256 := ⟨_, rfl⟩
  obtain ⟨x3, e3⟩ : ∃ x, x = n % 256 := ⟨_, rfl⟩
  rw [← e0, ← e1, ← e2, ← e3] at hbe
  have f0 : (n : Int) / 16777216 = (x0 : Int) := by omega
  have f1 : (n : Int) / 65536 % 256 = (x1 : Int) := by omega
  have f2 : (n : Int) / 256 % 256 = (x2 : Int) := by omega
  have f3 : (n : Int) % 256 = (x3 : Int) := by omega
  have hx0 : x0 < 256 := by omega
  have HBE := Lib.hid hbe
  have HCL := Lib.hid CL
  have HBL := Lib.hid BL
  have HLN := Lib.hid ln
  clear CL BL hbe e0 e1 e2 e3 h1 h2 hK hN lk ln
  go_enter Try.func47, Try.ntmps47
  go_wp2_with fail
  refine (HCL.out).mono ?_
  rintro e w1 ⟨v3, rfl, hown, hb⟩
  have HO := Lib.hid hown
  have HB := Lib.hid hb
  clear hown hb
  go_wp2_with (at_builtin; refine wpList_app rfl (.tmp 12) (.tmp 24) 28 rfl w.heap.size 5 _ 1 bytesE _ (bvs N) rfl (HO.out.alloc _) _ [.int .u8 (x0 : Nat), .int .u8 (x1 : Nat), .int .u8 (x2 : Nat), .int .u8 (x3 : Nat)] rfl ?c1 ?c0 ?c2 ?c3 ?_)
  case c1 => exact (Own.full (B := w1.heap.size) (cs := #[.int .u8 (x0 : Nat), .int .u8 (x1 : Nat), .int .u8 (x2 : Nat), .int .u8 (x3 : Nat)]) rfl (Nat.le_refl _) (by unfold maxLen; simp) rfl).rd
  case c0 => intro u hu; simp at hu; rcases hu with rfl | rfl | rfl | rfl <;> rfl
  case c2 => rw [bvs_len, HLN.out]; simp
  case c3 => have := HB.out.size; simp; omega
  rintro v4 w2 hown2 - hb2
  have e4 : bvs N ++ [.int .u8 (x0 : Nat), .int .u8 (x1 : Nat), .int .u8 (x2 : Nat), .int .u8 (x3 : Nat)] = bvs (N ++ beN 4 n) := by rw [HBE.out, bvs_append]; rfl
  rw [e4] at hown2
  have hbw : Below w.heap.size w w2 := (HB.out.alloc HB.out.size _).trans hb2
  have HBK := Lib.hid (HBL.out v4 w2 hbw hown2.rd)
  have HB2 := Lib.hid hbw
  clear hown2 hb2 hbw e4
  go_wp2_with fail
  refine (HBK.out).mono ?_
  rintro e w3 ⟨r, rfl, hown3, hb3⟩
  have HO3 := Lib.hid (hown3.mono HB2.out.size)
  have HB3 := Lib.hid (HB2.out.trans (hb3.mono HB2.out.size))
  obtain ⟨s1, s2, s3, rfl⟩ := slOf hown3
  clear hown3 hb3
  go_wp2_with fail
  go_ret
  exact ⟨_, rfl, HO3.out, HB3.out⟩
end Go.Proofs.Ytfpjpakjlhidkaa
