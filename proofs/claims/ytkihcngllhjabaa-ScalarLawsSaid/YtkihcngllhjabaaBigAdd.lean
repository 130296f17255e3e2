/- Walks: the reference's Add and Sub. -/
import Derived.Test.YtkihcngllhjabaaBigBase
namespace Go.Proofs.Ytkihcngllhjabaa
open Go.RowKit BigM
theorem Dig.small {L : List Nat} {w : World} {v : Value} (h : Rd w v (dvs L)) : L.length ≤ maxLen := by
  obtain ⟨a, cap, _, h1, h2, _⟩ := h
  rw [dvs_len] at h1; omega
theorem Own.sl' {w : World} {B : Nat} {e : TypeId} {v : Value} {xs : List Value} (h : Own w B e v xs) : ∃ a n c, v = .slice a n c := by
  rcases h.form with rfl | ⟨g, cap, rfl⟩
  · exact ⟨_, _, _, rfl⟩
  · exact ⟨_, _, _, rfl⟩
theorem Rd.get' {w : World} {a : Option Addr} {n cap r : Nat} {xs : List Value} {u : Value} (h : Rd w (.slice a n cap) xs) (hu : xs[r]? = some u) : ∃ b off, a = some ⟨b, off, none⟩ ∧ b < w.heap.size ∧ w.cell? ⟨b, off + r, none⟩ = some u := by
  rcases h.lt with h0 | ⟨b, off, cap', e1, e2⟩
  · subst h0; simp at hu
  · obtain ⟨a', c', e, _, _, h3⟩ := h
    rcases h3 with ⟨h0, _⟩ | ⟨b', off', he, hc⟩
    · subst h0; simp at hu
    · simp only [Value.slice.injEq] at e e1
      obtain ⟨rfl, _, _⟩ := e
      obtain ⟨rfl, _, _⟩ := e1
      simp only [Option.some.injEq, Addr.mk.injEq, and_true] at he
      obtain ⟨rfl, rfl⟩ := he
      exact ⟨b, off, rfl, e2, hc r u hu⟩
set_option maxRecDepth 100000 in
set_option maxHeartbeats 2000000 in
theorem badd_any (v v' : Value) (A B : Nat) (w : World) (h : Rd w v (dvs (big A))) (h' : Rd w v' (dvs (big B))) (hA : (big A).length < 1000000) (hB : (big B).length < 1000000) :
    Calls Try.prog 28 #[v, v'] w fun e w' => ∃ v2, e = .returned v2 ∧ Own w' w.heap.size 3 v2 (dvs (big (A + B))) ∧ Below w.heap.size w w' := by
  obtain ⟨la, hla⟩ : ∃ k, k = (big A).length := ⟨_, rfl⟩
  obtain ⟨lb, hlb⟩ : ∃ k, k = (big B).length := ⟨_, rfl⟩
  have hv : ∃ a c, v = .slice a la c := by obtain ⟨a, c, e, _⟩ := h; exact ⟨a, c, by rw [e, dvs_len, hla]⟩
  have hv' : ∃ a c, v' = .slice a lb c := by obtain ⟨a, c, e, _⟩ := h'; exact ⟨a, c, by rw [e, dvs_len, hlb]⟩
  obtain ⟨a, c, rfl⟩ := hv
  obtain ⟨a', c', rfl⟩ := hv'
  rw [← hla] at hA
  rw [← hlb] at hB
  have HLA := Lib.hid hla
  have HLB := Lib.hid hlb
  have G : ∀ (i : Nat) (wr : World), i < 1099511627776 → Below w.heap.size w wr → Calls Try.prog 68 #[.slice a la c, .int .i64 (i : Nat)] wr fun e w' => e = .returned (.int .i64 (dg A i : Nat)) ∧ w' = wr := fun i wr hi hb => bdigit_any _ A i wr (h.below hb (Nat.le_refl _)) hi
  have G' : ∀ (i : Nat) (wr : World), i < 1099511627776 → Below w.heap.size w wr → Calls Try.prog 68 #[.slice a' lb c', .int .i64 (i : Nat)] wr fun e w' => e = .returned (.int .i64 (dg B i : Nat)) ∧ w' = wr := fun i wr hi hb => bdigit_any _ B i wr (h'.below hb (Nat.le_refl _)) hi
  have HG := Lib.hid G
  have HG' := Lib.hid G'
  clear G G' h h' hla hlb
  go_enter Try.func28, Try.ntmps28
  go_wp2_with fail
  go_loopg [5, 6, 7] (la + lb + 2) (fun q out cv iv wr => ∃ (L : List Nat) (k i : Nat), i + q = la + lb + 2 ∧ k ≤ 1 ∧ (i ≤ la ∨ i ≤ lb ∨ k = 0) ∧ cv = .int .i64 (k : Nat) ∧ iv = .int .i64 (i : Nat) ∧ L.length = i ∧ Hid (Dig L) ∧ Hid (bval L + 32768 ^ i * k = A % 32768 ^ i + B % 32768 ^ i) ∧ Own wr w.heap.size 3 out (dvs L) ∧ Below w.heap.size w wr)
  case atStart =>
    exact ⟨[], 0, 0, by omega, by omega, .inl (Nat.zero_le _), rfl, rfl, rfl, Dig.nil, by simp [Hid, bval, Nat.mod_one], Own.nil _ _ _, Below.refl _ _⟩
  case round =>
    obtain ⟨L, k, i, hq, hk, hor, rfl, rfl, hlen, HDG, HV, hown, hb⟩ := hrel
    have HO := Lib.hid hown
    have HB := Lib.hid hb
    have HL := Lib.hid hlen
    have hsz := hb.size
    have hi40 : L.length < 10000000 := by omega
    clear hown hb hlen
    by_cases c1 : i < la
    · have D1 := HG.out i wr (by omega) HB.out
      have D2 := HG'.out i wr (by omega) HB.out
      have hx := dg_lt A i
      have hy := dg_lt B i
      have hst := add_step (i := i) HV.out
      skip
      obtain ⟨x, hxe⟩ : ∃ x, x = dg A i := ⟨_, rfl⟩
      obtain ⟨y, hye⟩ : ∃ y, y = dg B i := ⟨_, rfl⟩
      rw [← hxe, ← hye] at hst
      rw [← hxe] at D1 hx
      rw [← hye] at D2 hy
      skip
      have HD1 := Lib.hid D1
      have HD2 := Lib.hid D2
      have HST := Lib.hid hst
      clear D1 D2 hst hxe hye
      go_wp2_with fail
      refine (HD1.out).mono ?_
      rintro e w' ⟨rfl, rfl⟩
      go_wp2_with fail
      refine (HD2.out).mono ?_
      rintro e w' ⟨rfl, rfl⟩
      go_wp2_with (at_builtin; refine wpList_app rfl (.tmp 34) (.tmp 37) 31 rfl w.heap.size 3 _ 8 bigE _ (dvs L) rfl (HO.out.alloc _) _ [.int .i64 (((x : Int) + y + k) % 32768)] rfl ?c11 ?c01 ?c21 ?c31 ?_)
      case c11 => exact (Own.full (B := w'.heap.size) (cs := #[.int .i64 (((x : Int) + y + k) % 32768)]) rfl (Nat.le_refl _) (by unfold maxLen; simp) rfl).rd
      case c01 => intro u hu; simp at hu; subst hu; rfl
      case c21 => simp; omega
      case c31 => simp; omega
      rintro v' w2 hown2 - hb2
      have HO2 := Lib.hid hown2
      have HB2 := Lib.hid ((HB.out.alloc hsz _).trans hb2)
      clear hown2 hb2
      go_wp2_with fail
      go_roundg (gk - 1)
      case measure => omega
      case rel =>
        refine ⟨L ++ [(x + y + k) % 32768], (x + y + k) / 32768, i + 1, by omega, by omega, .inl (by omega), by go_num, by go_num, by simp [HL.out], HDG.out.snoc (by omega), ?_, ?_, HB2.out⟩
        · show _ = _
          rw [bval_snoc, HL.out]
          exact HST.out
        · rw [dvs_snoc]
          exact HO2.out
    · by_cases c2 : i < lb
      · have D1 := HG.out i wr (by omega) HB.out
        have D2 := HG'.out i wr (by omega) HB.out
        have hx := dg_lt A i
        have hy := dg_lt B i
        have hst := add_step (i := i) HV.out
        skip
        obtain ⟨x, hxe⟩ : ∃ x, x = dg A i := ⟨_, rfl⟩
        obtain ⟨y, hye⟩ : ∃ y, y = dg B i := ⟨_, rfl⟩
        rw [← hxe, ← hye] at hst
        rw [← hxe] at D1 hx
        rw [← hye] at D2 hy
        skip
        have HD1 := Lib.hid D1
        have HD2 := Lib.hid D2
        have HST := Lib.hid hst
        clear D1 D2 hst hxe hye
        go_wp2_with fail
        refine (HD1.out).mono ?_
        rintro e w' ⟨rfl, rfl⟩
        go_wp2_with fail
        refine (HD2.out).mono ?_
        rintro e w' ⟨rfl, rfl⟩
        go_wp2_with (at_builtin; refine wpList_app rfl (.tmp 34) (.tmp 37) 31 rfl w.heap.size 3 _ 8 bigE _ (dvs L) rfl (HO.out.alloc _) _ [.int .i64 (((x : Int) + y + k) % 32768)] rfl ?c12 ?c02 ?c22 ?c32 ?_)
        case c12 => exact (Own.full (B := w'.heap.size) (cs := #[.int .i64 (((x : Int) + y + k) % 32768)]) rfl (Nat.le_refl _) (by unfold maxLen; simp) rfl).rd
        case c02 => intro u hu; simp at hu; subst hu; rfl
        case c22 => simp; omega
        case c32 => simp; omega
        rintro v' w2 hown2 - hb2
        have HO2 := Lib.hid hown2
        have HB2 := Lib.hid ((HB.out.alloc hsz _).trans hb2)
        clear hown2 hb2
        go_wp2_with fail
        go_roundg (gk - 1)
        case measure => omega
        case rel =>
          refine ⟨L ++ [(x + y + k) % 32768], (x + y + k) / 32768, i + 1, by omega, by omega, .inr (.inl (by omega)), by go_num, by go_num, by simp [HL.out], HDG.out.snoc (by omega), ?_, ?_, HB2.out⟩
          · show _ = _
            rw [bval_snoc, HL.out]
            exact HST.out
          · rw [dvs_snoc]
            exact HO2.out
      · by_cases c3 : 0 < k
        · have D1 := HG.out i wr (by omega) HB.out
          have D2 := HG'.out i wr (by omega) HB.out
          have hx := dg_lt A i
          have hy := dg_lt B i
          have hst := add_step (i := i) HV.out
          have z1 : dg A i = 0 := dg_out (by have := HLA.out; omega)
          have z2 : dg B i = 0 := dg_out (by have := HLB.out; omega)
          obtain ⟨x, hxe⟩ : ∃ x, x = dg A i := ⟨_, rfl⟩
          obtain ⟨y, hye⟩ : ∃ y, y = dg B i := ⟨_, rfl⟩
          rw [← hxe, ← hye] at hst
          rw [← hxe] at D1 hx
          rw [← hye] at D2 hy
          have HZ3 : Hid (x = 0) := Lib.hid (by omega)
          have HZ4 : Hid (y = 0) := Lib.hid (by omega)
          clear z1 z2
          have HD1 := Lib.hid D1
          have HD2 := Lib.hid D2
          have HST := Lib.hid hst
          clear D1 D2 hst hxe hye
          go_wp2_with fail
          refine (HD1.out).mono ?_
          rintro e w' ⟨rfl, rfl⟩
          go_wp2_with fail
          refine (HD2.out).mono ?_
          rintro e w' ⟨rfl, rfl⟩
          go_wp2_with (at_builtin; refine wpList_app rfl (.tmp 34) (.tmp 37) 31 rfl w.heap.size 3 _ 8 bigE _ (dvs L) rfl (HO.out.alloc _) _ [.int .i64 (((x : Int) + y + k) % 32768)] rfl ?c13 ?c03 ?c23 ?c33 ?_)
          case c13 => exact (Own.full (B := w'.heap.size) (cs := #[.int .i64 (((x : Int) + y + k) % 32768)]) rfl (Nat.le_refl _) (by unfold maxLen; simp) rfl).rd
          case c03 => intro u hu; simp at hu; subst hu; rfl
          case c23 => simp; omega
          case c33 => simp; omega
          rintro v' w2 hown2 - hb2
          have HO2 := Lib.hid hown2
          have HB2 := Lib.hid ((HB.out.alloc hsz _).trans hb2)
          clear hown2 hb2
          go_wp2_with fail
          go_roundg (gk - 1)
          case measure => omega
          case rel =>
            refine ⟨L ++ [(x + y + k) % 32768], (x + y + k) / 32768, i + 1, by omega, by omega, .inr (.inr (by have := HZ3.out; have := HZ4.out; omega)), by go_num, by go_num, by simp [HL.out], HDG.out.snoc (by omega), ?_, ?_, HB2.out⟩
            · show _ = _
              rw [bval_snoc, HL.out]
              exact HST.out
            · rw [dvs_snoc]
              exact HO2.out
        · obtain rfl : k = 0 := by omega
          have T := btrim_any _ L w.heap.size wr HO.out HDG.out (by omega)
          rw [add_end (by have := HLA.out; omega) (by have := HLB.out; omega) HV.out] at T
          have HT := Lib.hid T
          clear T
          go_wp2_with fail
          refine (HT.out).mono ?_
          rintro e w' ⟨v2, rfl, ho, rfl⟩
          have HO2 := Lib.hid ho
          clear ho
          obtain ⟨s1, s2, s3, rfl⟩ := HO2.out.sl'
          go_wp2_with fail
          go_ret
          exact ⟨_, rfl, HO2.out, HB.out⟩
set_option maxRecDepth 100000 in
set_option maxHeartbeats 2000000 in
theorem bsub_any (v v' : Value) (A B : Nat) (w : World) (h : Rd w v (dvs (big A))) (h' : Rd w v' (dvs (big B))) (hA : (big A).length < 1000000) (hBA : B ≤ A) :
    Calls Try.prog 30 #[v, v'] w fun e w' => ∃ v2, e = .returned v2 ∧ Own w' w.heap.size 3 v2 (dvs (big (A - B))) ∧ Below w.heap.size w w' := by
  obtain ⟨la, hla⟩ : ∃ k, k = (big A).length := ⟨_, rfl⟩
  have hv : ∃ a c, v = .slice a la c := by obtain ⟨a, c, e, _⟩ := h; exact ⟨a, c, by rw [e, dvs_len, hla]⟩
  have hv' : ∃ a b c, v' = .slice a b c := by obtain ⟨a, c, e, _⟩ := h'; exact ⟨a, _, c, e⟩
  obtain ⟨a, c, rfl⟩ := hv
  obtain ⟨a', b', c', rfl⟩ := hv'
  rw [← hla] at hA
  have HLA := Lib.hid hla
  have hcell : ∀ (i : Nat) (wr : World), i < la → Below w.heap.size w wr → ∃ b off, a = some ⟨b, off, none⟩ ∧ wr.cell? ⟨b, off + i, none⟩ = some (.int .i64 (dg A i : Nat)) := by
    intro i wr hi hb
    obtain ⟨b, off, e1, e2, e3⟩ := (h.below hb (Nat.le_refl _)).get' (r := i) (u := .int .i64 (dg A i : Nat)) (by rw [dvs_getD (by omega), List.getD_eq_getElem?_getD, big_get A i (by omega)]; rfl)
    exact ⟨b, off, e1, e3⟩
  have G' : ∀ (i : Nat) (wr : World), i < 1099511627776 → Below w.heap.size w wr → Calls Try.prog 68 #[.slice a' b' c', .int .i64 (i : Nat)] wr fun e w' => e = .returned (.int .i64 (dg B i : Nat)) ∧ w' = wr := fun i wr hi hb => bdigit_any _ B i wr (h'.below hb (Nat.le_refl _)) hi
  have HC := Lib.hid hcell
  have HG' := Lib.hid G'
  clear G' hcell h h' hla
  go_enter Try.func30, Try.ntmps30
  go_wp2_with fail
  go_loopg [5, 6, 7] la (fun q out cv iv wr => ∃ (L : List Nat) (k i : Nat), i + q = la ∧ k ≤ 1 ∧ cv = .int .i64 (k : Nat) ∧ iv = .int .i64 (i : Nat) ∧ L.length = i ∧ Hid (Dig L) ∧ Hid (bval L + B % 32768 ^ i = A % 32768 ^ i + 32768 ^ i * k) ∧ Own wr w.heap.size 3 out (dvs L) ∧ Below w.heap.size w wr)
  case atStart =>
    exact ⟨[], 0, 0, by omega, by omega, rfl, rfl, rfl, Dig.nil, by simp [Hid, bval, Nat.mod_one], Own.nil _ _ _, Below.refl _ _⟩
  case round =>
    obtain ⟨L, k, i, hq, hk, rfl, rfl, hlen, HDG, HV, hown, hb⟩ := hrel
    have HO := Lib.hid hown
    have HB := Lib.hid hb
    have HL := Lib.hid hlen
    have hsz := hb.size
    have hi40 : L.length < 10000000 := by omega
    clear hown hb hlen
    by_cases c1 : i < la
    · obtain ⟨b, off, rfl, cell⟩ := HC.out i wr c1 HB.out
      have D2 := fun w' hw => HG'.out i w' (by omega) hw
      have hx := dg_lt A i
      have hy := dg_lt B i
      have hst : ∀ d c2, d + dg B i + k = dg A i + 32768 * c2 → bval L + 32768 ^ i * d + B % 32768 ^ (i + 1) = A % 32768 ^ (i + 1) + 32768 ^ (i + 1) * c2 := fun d c2 hd => sub_step HV.out hd
      obtain ⟨x, hxe⟩ : ∃ x, x = dg A i := ⟨_, rfl⟩
      obtain ⟨y, hye⟩ : ∃ y, y = dg B i := ⟨_, rfl⟩
      rw [← hxe, ← hye] at hst
      rw [← hxe] at cell hx
      rw [← hye] at D2 hy
      have HD2 := Lib.hid D2
      have HST := Lib.hid hst
      clear D2 hst hxe hye
      go_wp2_with fail
      go_quiet ((go_at_call 68; exact Calls.quiet_of_same (HD2.out _ (below_drewN' HB.out _))))
      by_cases c2 : x < y + k
      · go_wp2_with (at_builtin; refine wpList_app rfl (.tmp 29) (.tmp 31) 31 rfl w.heap.size 3 _ 8 bigE _ (dvs L) rfl (HO.out.alloc _) _ [.int .i64 ((x : Int) - y - k + 32768)] rfl ?s11 ?s01 ?s21 ?s31 ?_)
        case s11 => exact (Own.full (B := wr.heap.size) (cs := #[.int .i64 ((x : Int) - y - k + 32768)]) rfl (Nat.le_refl _) (by unfold maxLen; simp) rfl).rd
        case s01 => intro u hu; simp at hu; subst hu; rfl
        case s21 => simp; omega
        case s31 => simp; omega
        rintro v' w2 hown2 - hb2
        have HO2 := Lib.hid hown2
        have HB2 := Lib.hid (((below_drewN' HB.out _).alloc hsz _).trans hb2)
        clear hown2 hb2
        go_wp2_with fail
        go_roundg (gk - 1)
        case measure => omega
        case rel =>
          refine ⟨L ++ [x + 32768 - y - k], 1, i + 1, by omega, by omega, rfl, by go_num, by simp [HL.out], HDG.out.snoc (by omega), ?_, ?_, HB2.out⟩
          · show _ = _
            rw [bval_snoc, HL.out]
            exact HST.out _ _ (by omega)
          · rw [dvs_snoc, show ((x + 32768 - y - k : Nat) : Int) = ((x : Int) - y - k + 32768) from by omega]
            exact HO2.out
      · go_wp2_with (at_builtin; refine wpList_app rfl (.tmp 29) (.tmp 31) 31 rfl w.heap.size 3 _ 8 bigE _ (dvs L) rfl (HO.out.alloc _) _ [.int .i64 ((x : Int) - y - k)] rfl ?s12 ?s02 ?s22 ?s32 ?_)
        case s12 => exact (Own.full (B := wr.heap.size) (cs := #[.int .i64 ((x : Int) - y - k)]) rfl (Nat.le_refl _) (by unfold maxLen; simp) rfl).rd
        case s02 => intro u hu; simp at hu; subst hu; rfl
        case s22 => simp; omega
        case s32 => simp; omega
        rintro v' w2 hown2 - hb2
        have HO2 := Lib.hid hown2
        have HB2 := Lib.hid (((below_drewN' HB.out _).alloc hsz _).trans hb2)
        clear hown2 hb2
        go_wp2_with fail
        go_roundg (gk - 1)
        case measure => omega
        case rel =>
          refine ⟨L ++ [x - y - k], 0, i + 1, by omega, by omega, rfl, by go_num, by simp [HL.out], HDG.out.snoc (by omega), ?_, ?_, HB2.out⟩
          · show _ = _
            rw [bval_snoc, HL.out]
            exact HST.out _ _ (by omega)
          · rw [dvs_snoc, show ((x - y - k : Nat) : Int) = ((x : Int) - y - k) from by omega]
            exact HO2.out
    · obtain rfl : i = la := by omega
      have T := btrim_any _ L w.heap.size wr HO.out HDG.out (by omega)
      have hlt := bval_lt HDG.out
      rw [HL.out] at hlt
      have hv := HV.out
      rw [HLA.out] at hlt hv
      rw [sub_end hBA hlt hv] at T
      have HT := Lib.hid T
      clear T hlt hv
      go_wp2_with fail
      refine (HT.out).mono ?_
      rintro e w' ⟨v2, rfl, ho, rfl⟩
      have HO2 := Lib.hid ho
      clear ho
      obtain ⟨s1, s2, s3, rfl⟩ := HO2.out.sl'
      go_wp2_with fail
      go_ret
      exact ⟨_, rfl, HO2.out, HB.out⟩
end Go.Proofs.Ytkihcngllhjabaa
