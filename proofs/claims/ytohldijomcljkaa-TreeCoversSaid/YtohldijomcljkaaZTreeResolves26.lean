/- Walks: sha.Sum. -/
import Derived.Test.YtohldijomcljkaaZTreeResolves23
import Derived.Test.YtohldijomcljkaaZTreeResolves05
import Derived.Test.YtohldijomcljkaaZTreeResolves13
namespace Go.Proofs.Ytohldijomcljkaa
open Go.RowKit ShaM WireM
set_option linter.unusedVariables false
theorem Rd.onlyG {w w' : World} {v : Value} {xs : List Value} {g : Nat} (h : Rd w v xs) (ho : OnlyG g w w') (hne : ∀ a n c, v = .slice (some a) n c → a.block ≠ g) : Rd w' v xs := by
  rcases h.lt with rfl | ⟨b, off, cap, e, hb⟩
  · obtain ⟨a, c, e, h1, h2, h3⟩ := h
    refine ⟨a, c, e, h1, h2, .inl ⟨rfl, ?_⟩⟩
    rcases h3 with ⟨_, h3⟩ | ⟨b, off, h3, _⟩
    · exact h3
    · intro h; rw [h3] at h; cases h
  · obtain ⟨a, c, e', h1, h2, h3⟩ := h
    rw [e] at e'
    simp only [Value.slice.injEq] at e'
    obtain ⟨rfl, -, rfl⟩ := e'
    refine ⟨_, cap, e, h1, h2, ?_⟩
    rcases h3 with ⟨h3, _⟩ | ⟨b', off', h3, hc⟩
    · exact .inl ⟨h3, fun h => by cases h⟩
    · refine .inr ⟨b', off', h3, fun j u hu => ?_⟩
      simp only [Option.some.injEq, Addr.mk.injEq, and_true] at h3
      obtain ⟨rfl, rfl⟩ := h3
      have hh := ho.2.2 b hb (hne _ _ _ e)
      have := hc j u hu
      unfold World.cell? at this ⊢
      simp only [hh]
      exact this
theorem bvs_take2 (L : List Nat) (k : Nat) : bvs (L.take k) = (bvs L).take k := by simp [bvs, List.map_take]
theorem Rd.pre {w : World} {a : Option Addr} {n c : Nat} {xs : List Value} (h : Rd w (.slice a n c) xs) (k : Nat) (hk : k ≤ n) : Rd w (.slice a k c) (xs.take k) := by
  obtain ⟨a', cap, e, q1, q2, q3⟩ := h
  simp only [Value.slice.injEq] at e
  obtain ⟨rfl, rfl, rfl⟩ := e
  have hl : (xs.take k).length = k := by rw [List.length_take]; omega
  refine ⟨a, c, by rw [hl], by rw [hl]; omega, q2, ?_⟩
  rcases q3 with ⟨rfl, q⟩ | ⟨b, off, rfl, q⟩
  · exact .inl ⟨by simp, q⟩
  · refine .inr ⟨b, off, rfl, fun j u hu => q j u ?_⟩
    rw [List.getElem?_take] at hu
    split at hu
    · exact hu
    · cases hu
theorem Rd.cap {w : World} {a : Option Addr} {n c : Nat} {xs : List Value} (h : Rd w (.slice a n c) xs) : n ≤ c ∧ c ≤ maxLen := by
  obtain ⟨a', cap, e, q1, q2, _⟩ := h
  simp only [Value.slice.injEq] at e
  exact ⟨by omega, by omega⟩
/-- how long a slice is -/
def lenV : Value → Nat
  | .slice _ n _ => n
  | _ => 0
/-- at every arrival at the label -/
def SumJ (B : Nat) (P : List Nat) (Z : Array Value) (a0 : Option Addr) (n c0 : Nat) (w : World) (a' : Act) (w' : World) : Prop :=
  ∃ (ps i rl rc : Nat) (ra : Option Addr), B < ps ∧ rl + 64 * i = P.length ∧ Blk w' ps 132 (u32a (blocksN P HL0 i)) ∧ Blk w' B 122 Z ∧ Rd w' (.slice ra rl rc) (bvs (P.drop (64 * i))) ∧ (∀ a, ra = some a → a.block ≠ ps) ∧ Below B w w' ∧
    ∃ (x1 x5 x6 x7 x8 x9 x10 x11 x12 x13 x14 x15 x16 x17 x18 x19 x20 x21 x22 x23 x24 x25 x26 x27 x28 x29 x30 x31 x32 x33 x34 x35 x36 x37 x38 x39 x40 x41 x42 x43 x44 x45 x46 x47 x48 x49 x50 x51 x52 x53 x54 x55 : Value), a' = { tmps := #[.slice a0 n c0, x1, .pointer (some ⟨B, 0, none⟩), .pointer (some ⟨ps, 0, none⟩), .slice ra rl rc, x5, x6, x7, x8, x9, x10, x11, x12, x13, x14, x15, x16, x17, x18, x19, x20, x21, x22, x23, x24, x25, x26, x27, x28, x29, x30, x31, x32, x33, x34, x35, x36, x37, x38, x39, x40, x41, x42, x43, x44, x45, x46, x47, x48, x49, x50, x51, x52, x53, x54, x55], defers := [] }
def Z32a : Array Value := (bvs (List.replicate 32 0)).toArray
theorem padL_lt {b : List Nat} (h : ∀ x ∈ b, x < 256) : ∀ x ∈ padL b, x < 256 := by
  intro x hx
  rcases List.mem_append.1 hx with hx | hx
  · exact h x hx
  · rcases List.mem_cons.1 hx with rfl | hx
    · omega
    · rcases List.mem_append.1 hx with hx | hx
      · rw [(List.mem_replicate.1 hx).2]; omega
      · exact beN_lt _ _ x hx
theorem padL_len2 (b : List Nat) : (padL b).length ≤ b.length + 72 := by
  simp only [padL, tailL, List.length_append, List.length_cons, List.length_replicate, beN_len]
  omega
/-- the first t words are laid -/
def outN (S : List Nat) (t : Nat) : List Nat := (List.range 32).map fun j => if j < 4 * t then S.getD (j / 4) 0 / 2 ^ (8 * (3 - j % 4)) % 256 else 0
theorem outN_zero (S : List Nat) : (bvs (outN S 0)).toArray = Z32a := by simp [outN, Z32a, bvs, List.range_succ]
theorem outN_len (S : List Nat) (t : Nat) : (outN S t).length = 32 := by simp [outN]
theorem outN_get (S : List Nat) (t : Nat) {j : Nat} (h : j < 32) : (outN S t).getD j 0 = if j < 4 * t then S.getD (j / 4) 0 / 2 ^ (8 * (3 - j % 4)) % 256 else 0 := by simp [outN, List.getD_eq_getElem?_getD, h]
theorem getD_set (l : List Nat) (i j x : Nat) : (l.set i x).getD j 0 = if i = j ∧ j < l.length then x else l.getD j 0 := by
  simp only [List.getD_eq_getElem?_getD, List.getElem?_set]
  by_cases h : i = j
  · subst h
    by_cases h2 : i < l.length
    · simp [h2]
    · simp [h2]
  · simp [h]
theorem outN_step (S : List Nat) {t : Nat} (h : t < 8) {x : Nat} (hx : x = S.getD t 0) : ((((outN S t).set (4 * t) (x / 16777216 % 256)).set (4 * t + 1) (x / 65536 % 256)).set (4 * t + 2) (x / 256 % 256)).set (4 * t + 3) (x % 256) = outN S (t + 1) := by
  refine ext_getD (by simp [outN_len]) fun j hj => ?_
  simp only [List.length_set, outN_len] at hj
  simp only [getD_set, List.length_set, outN_len, outN_get S _ hj]
  by_cases h0 : j < 4 * t
  · rw [if_neg (by omega), if_neg (by omega), if_neg (by omega), if_neg (by omega), if_pos h0, if_pos (by omega)]
  · by_cases h4 : j < 4 * (t + 1)
    · have e : j / 4 = t := by omega
      rw [if_pos h4, e, ← hx]
      obtain e | e | e | e : j = 4 * t ∨ j = 4 * t + 1 ∨ j = 4 * t + 2 ∨ j = 4 * t + 3 := by omega
      · rw [if_neg (by omega), if_neg (by omega), if_neg (by omega), if_pos (by omega), show j % 4 = 0 by omega]
      · rw [if_neg (by omega), if_neg (by omega), if_pos (by omega), show j % 4 = 1 by omega]
      · rw [if_neg (by omega), if_pos (by omega), show j % 4 = 2 by omega]
      · rw [if_pos (by omega), show j % 4 = 3 by omega]; simp
    · rw [if_neg (by omega), if_neg (by omega), if_neg (by omega), if_neg (by omega), if_neg h0, if_neg h4]
theorem outN_cell {S : List Nat} {t g : Nat} {w : World} {ty : TypeId} (h : Blk w g ty (bvs (outN S t)).toArray) {j : Nat} (hj : j < 32) : ∃ u, w.cell? ⟨g, j, none⟩ = some u := by
  rw [h.cell]
  exact ⟨_, Array.getElem?_eq_getElem (by simpa [bvs, outN_len] using hj)⟩
theorem bvs_set (L : List Nat) (i n : Nat) : (bvs L).toArray.setIfInBounds i (.int .u8 (n : Int)) = (bvs (L.set i n)).toArray := by
  simp [bvs, List.map_set]
theorem outN_end {S : List Nat} (h : S.length = 8) : outN S 8 = (S.map (beN 4)).flatten := by
  match S, h with
  | [a, b, c, d, e, f, g, k], _ => simp [outN, List.range_succ, beN]
set_option maxRecDepth 100000 in
set_option maxHeartbeats 8000000 in
theorem ssum_any (v : Value) (L : List Nat) (w : World) (h : Rd w v (bvs L)) (hL : ∀ x ∈ L, x < 256) (hl : L.length ≤ 1000000) :
    Calls Try.prog 126 #[v] w fun e w' => e = .returned (.agg (bvs (shaF L)).toArray) ∧ Below w.heap.size w w' := by
  have hz : ∀ w, (zeroValue 122).run Try.prog w = .ok (.agg Z32a) w := fun _ => by kernel_rfl
  have hz8 : ∀ w, (zeroValue 132).run Try.prog w = .ok (.agg Z8a) w := fun _ => by kernel_rfl
  have BG := fun (W : World) => begin_any W
  have CL := fun (W : World) (hw : Below w.heap.size w W) => clone_any v L W (h.below hw (Nat.le_refl _)) (by omega)
  have TL := fun (W : World) => tail_any L.length W hl
  have hv : ∃ a c, v = .slice a L.length c := by obtain ⟨a, c, e, _⟩ := h; exact ⟨a, c, by rw [e, bvs_len]⟩
  obtain ⟨a0, c0, rfl⟩ := hv
  have hpl := padL_len L
  have hpb := padL_lt hL
  have hpl2 := padL_len2 L
  obtain ⟨P, hP⟩ : ∃ P, P = padL L := ⟨_, rfl⟩
  have hPE : bvs L ++ bvs (tailL L.length) = bvs P := by rw [hP, padL]; simp [bvs]
  rw [← hP] at hpl hpb hpl2
  obtain ⟨HA, hHA⟩ : ∃ A, A = HLa := ⟨_, rfl⟩
  simp only [← hHA] at BG
  have IH := Lib.hid (show (Try.prog.info? 132).map (·.size) = some HA.size by rw [hHA, HLa]; exact info8 HL0 rfl)
  have ZH := Lib.hid (show Z8a.size = HA.size by rw [hHA]; unfold Z8a HLa; rw [u32a_size, u32a_size]; rfl)
  have OH := Lib.hid (show HA.toList.all (·.oneCell') = true by rw [hHA, Array.all_toList]; exact u32a_one HL0)
  obtain ⟨n, hn⟩ : ∃ n, n = L.length := ⟨_, rfl⟩
  rw [← hn] at CL TL hPE hl hpl2 ⊢
  have HBG := Lib.hid BG
  have HCL := Lib.hid CL
  have HTL := Lib.hid TL
  have HPE := Lib.hid hPE
  have HN := Lib.hid hn
  have HPP := Lib.hid hP
  have HAE := Lib.hid hHA
  clear BG CL TL hPE hn hP hHA h hL
  go_enter Try.func126, Try.ntmps126
  go_wp2_with fail
  refine wp_scope_label' 0 (SumJ w.heap.size P Z32a a0 n c0 w) (fun ac _ => lenV (ac.tmps.getD 4 undef)) rfl ?_ ?_
  · rintro ac wx ⟨ps, i, rl, rc, ra, hps, hi, hS, hR, hrd, hne, hb, hf⟩
    iterate 52 (obtain ⟨_, hf⟩ := hf)
    subst hf
    have HS := Lib.hid hS
    have HR := Lib.hid hR
    have HRD := Lib.hid hrd
    have HB := Lib.hid hb
    by_cases h0 : 0 < rl
    · have h64 : 64 ≤ rl := by omega
      have hrc := hrd.cap
      have g0 : decide (0 < rl) = true := decide_eq_true h0
      have hlen : (bvs (P.drop (64 * i))).length = rl := by rw [bvs_len, List.length_drop]; omega
      obtain ⟨bb, oo, rfl, hbl, hcell⟩ := hrd.at3 (r := 0) (u := (bvs (P.drop (64 * i)))[0]'(by omega)) (List.getElem?_eq_getElem _)
      have ok := blocksN_ok P HL0_len HL0_lt i
      have hpre := hrd.pre 64 h64
      rw [← bvs_take2] at hpre
      have ST := step_any ps _ (blocksN P HL0 i) ((P.drop (64 * i)).take 64) wx hS ok.2 ok.1 hpre (fun x hx => hpb x (List.mem_of_mem_drop (List.mem_of_mem_take hx))) (by rw [List.length_take, List.length_drop]; omega)
      have HST := Lib.hid ST
      have HNE := Lib.hid hne
      have HI := Lib.hid hi
      have h64c : 64 ≤ rc := by omega
      clear hcell ST hpre hS hR hrd hb hne hi hlen ok h0
      go_wp2_with fail
      refine (HST.out).mono ?_
      rintro e w' ⟨rfl, hS', ho⟩
      have HS' := Lib.hid hS'
      have HO := Lib.hid ho
      clear hS' ho
      by_cases h64e : rc = 64
      · subst h64e
        obtain rfl : rl = 64 := by omega
        go_wp2_with fail
        refine wp_goto ⟨rfl, ⟨ps, i + 1, 0, 0, _, hps, ?c1, ?c2, HR.out.only2 HO.out (by omega), ?c4, ?c5, HB.out.trans (HO.out.1.mono (by omega)), _, _, _, _, _, _, _, _, _, _, _, _, _, _, _, _, _, _, _, _, _, _, _, _, _, _, _, _, _, _, _, _, _, _, _, _, _, _, _, _, _, _, _, _, _, _, _, _, _, _, _, _, rfl⟩, ?_⟩
        case c1 => have := HI.out; omega
        case c2 => rw [blocksN]; exact HS'.out
        case c4 =>
          have e : P.drop (64 * (i + 1)) = [] := List.drop_eq_nil_of_le (by have := HI.out; omega)
          rw [e]
          refine ⟨some ⟨bb, oo, none⟩, 0, rfl, Nat.le_refl _, by unfold maxLen; omega, .inr ⟨bb, oo, rfl, fun j u hu => ?_⟩⟩
          simp [bvs] at hu
        case c5 => intro a e; simp only [Option.some.injEq] at e; subst e; exact HNE.out _ rfl
        show 0 < 64
        omega
      · go_wp2_with fail
        refine wp_goto ⟨rfl, ⟨ps, i + 1, rl - 64, rc - 64, _, hps, ?d1, ?d2, HR.out.only2 HO.out (by omega), ?d4, ?d5, HB.out.trans (HO.out.1.mono (by omega)), _, _, _, _, _, _, _, _, _, _, _, _, _, _, _, _, _, _, _, _, _, _, _, _, _, _, _, _, _, _, _, _, _, _, _, _, _, _, _, _, _, _, _, _, _, _, _, _, _, _, _, _, rfl⟩, ?_⟩
        case d1 => have := HI.out; omega
        case d2 => rw [blocksN]; exact HS'.out
        case d4 =>
          have h1 : Rd w' (.slice (some ⟨bb, oo, none⟩) rl rc) (bvs (P.drop (64 * i))) := HRD.out.onlyG HO.out (fun a n c e => by simp only [Value.slice.injEq, Option.some.injEq] at e; rw [← e.1]; exact HNE.out _ rfl)
          have h2 := h1.sub 64 rl (off' := oo + 64) (n' := rl - 64) (cap' := rc - 64) h64 (Nat.le_refl _) rfl rfl rfl
          have e2 : ((bvs (P.drop (64 * i))).take rl).drop 64 = bvs (P.drop (64 * (i + 1))) := by
            rw [List.take_of_length_le (by rw [bvs_len, List.length_drop]; have := HI.out; omega)]
            simp [bvs, List.map_drop, List.drop_drop, Nat.mul_add]
          rw [e2] at h2
          exact h2
        case d5 => intro a e; simp only [Option.some.injEq] at e; subst e; exact HNE.out ⟨bb, oo, none⟩ rfl
        show rl - 64 < rl
        omega
    · obtain rfl : rl = 0 := by omega
      obtain ⟨S, hSe⟩ : ∃ S, S = blocksN P HL0 i := ⟨_, rfl⟩
      have ok := blocksN_ok P HL0_len HL0_lt i
      rw [← hSe] at ok hS
      obtain ⟨SA, hSA⟩ : ∃ A, A = u32a S := ⟨_, rfl⟩
      rw [← hSA] at hS
      have HS := Lib.hid hS
      have HSE := Lib.hid hSe
      have HSA := Lib.hid hSA
      have HI := Lib.hid hi
      clear hS hR hrd hb hne hi hSe hSA h0 HRD
      have HIS := Lib.hid (show SA.toList.all (·.oneCell') = true by rw [HSA.out, Array.all_toList]; exact u32a_one S)
      have HIZ := Lib.hid (show (Try.prog.info? 132).map (·.size) = some SA.size by rw [HSA.out]; exact info8 S ok.1)
      go_wp2_with (refine wpList_load_row rfl 132 (.tmp 3) rfl ps rfl 132 SA (0, 0) _ (HS.out.alloc _) Try.underlying132 rfl HIZ.out ?_)
      have N0 := Lib.hid (show Blk (wx.alloc (.cells Z32a 122)) wx.heap.size 122 (bvs (outN S 0)).toArray by rw [outN_zero]; exact Blk.new wx _ _)
      have A0 := Lib.hid (show Below wx.heap.size wx (wx.alloc (.cells Z32a 122)) from (Below.refl _ _).alloc (Nat.le_refl _) _)
      obtain ⟨wa, hwa⟩ : ∃ wa, wa = wx.alloc (.cells Z32a 122) := ⟨_, rfl⟩
      rw [← hwa] at N0 A0 ⊢
      have hlt := N0.out.lt
      obtain ⟨po, hpo⟩ : ∃ po, po = wx.heap.size := ⟨_, rfl⟩
      have hbs := HR.out.lt
      rw [← hpo] at N0 A0 hlt hbs ⊢
      have hsx := Lib.hid hpo
      clear hwa hpo
      go_loopg [24] 8 (fun q iv wr => ∃ t : Nat, t + q = 8 ∧ iv = .int .i64 (t : Nat) ∧ Blk wr po 122 (bvs (outN S t)).toArray ∧ Below po wx wr)
      case atStart => exact ⟨0, rfl, rfl, N0.out, A0.out⟩
      case round =>
        obtain ⟨t, ht, rfl, k2, ho⟩ := hrel
        have HT := Lib.hid ht
        have HK2 := Lib.hid k2
        have HO := Lib.hid ho
        by_cases hlt : t < 8
        · have hltd : decide ((t : Int) < 8) = true := by rw [decide_eq_true_iff]; omega
          have hx := getD_lt32 ok.2 t
          obtain ⟨x, hxe⟩ : ∃ x, x = S.getD t 0 := ⟨_, rfl⟩
          rw [← hxe] at hx
          have q1 : SA[t]? = some (.int .u32 (x : Nat)) := by rw [HSA.out, hxe]; exact u32a_get (by omega)
          have HX := Lib.hid hxe
          have hi := fun w => run_index_arr (P := Try.prog) w Try.underlying132 rfl Try.underlying131 (by kernel_rfl) SA .i64 t hlt _ q1
          have f0 := k2.frozen (4 * t)
          have f1 := k2.frozen (4 * t + 1)
          have f2 := k2.frozen (4 * t + 2)
          have f3 := k2.frozen (4 * t + 3)
          have hcl := fun (j : Nat) (hj : j < 32) => outN_cell (S := S) (t := t) k2 hj
          obtain ⟨y0, c0'⟩ := hcl (4 * t) (by omega)
          obtain ⟨y1, c1'⟩ := hcl (4 * t + 1) (by omega)
          obtain ⟨y2, c2'⟩ := hcl (4 * t + 2) (by omega)
          obtain ⟨y3, c3'⟩ := hcl (4 * t + 3) (by omega)
          clear ht k2 ho hxe q1 hcl
          go_wp2_with fail
          go_roundg (gk - 1)
          case measure => have := HT.out; omega
          case rel =>
            refine ⟨t + 1, by have := HT.out; omega, by go_num, ?_, ?_⟩
            · have e := outN_step S hlt HX.out
              rw [show x / 16777216 % 256 = x / 16777216 from Nat.mod_eq_of_lt (by omega)] at e
              rw [← e, ← bvs_set, ← bvs_set, ← bvs_set, ← bvs_set]
              exact (((HK2.out.set _ _).set _ _).set _ _).set _ _
            · exact (((HO.out.setCell (by simp) _).setCell (by simp) _).setCell (by simp) _).setCell (by simp) _
        · obtain rfl : t = 8 := by omega
          rw [outN_end ok.1] at HK2
          obtain ⟨OA, hOA⟩ : ∃ A, A = (bvs ((S.map (beN 4)).flatten)).toArray := ⟨_, rfl⟩
          rw [← hOA] at HK2
          have hO32 : ((S.map (beN 4)).flatten).length = 32 := by rw [← outN_end ok.1, outN_len]
          have OI := Lib.hid (show (Try.prog.info? 122).map (·.size) = some OA.size by rw [hOA]; simp only [List.size_toArray, bvs_len, hO32]; kernel_rfl)
          have OO := Lib.hid (show OA.all (·.oneCell') = true by rw [hOA]; simp [bvs, Value.oneCell'])
          have OZ := Lib.hid (show Z32a.size = OA.size by rw [hOA]; simp only [List.size_toArray, bvs_len, hO32]; kernel_rfl)
          have RR := Lib.hid (show Blk wr w.heap.size 122 Z32a from HR.out.below ho hbs)
          have HBO := Lib.hid (HB.out.trans (ho.mono (Nat.le_of_lt hbs)))
          have HOA := Lib.hid hOA
          clear ht k2 ho hOA hO32
          go_wp2_with (first | (refine wpList_load_row rfl 122 (.tmp 5) rfl po rfl 122 OA (0, 0) _ HK2.out Try.underlying122 rfl OI.out ?_) | (refine wpList_store_row rfl 122 (.tmp 2) (.tmp 55) rfl w.heap.size OA rfl rfl 122 Z32a RR.out OI.out OZ.out OO.out ?_))
          simp only [Exit.jump]
          refine bodyPost_ret (results_cell_row rfl _ _ w.heap.size 122 OA (0, 0) _ rfl (setRow_heap _ _ _ _ _ _ RR.out) Try.underlying122 rfl OI.out) rfl ⟨?_, ?_⟩
          · rw [HOA.out, HSE.out, HPP.out]
            have e : i = (padL L).length / 64 := by have := HI.out; rw [HPP.out] at this; omega
            rw [shaF, e]
          · exact HBO.out.trans (OnlyG.setRow w.heap.size _).1
  · intro hJ
    have HJ := Lib.hid hJ
    clear hJ
    go_wp2_with fail
    refine (HBG.out _).mono ?_
    rintro e w1 ⟨rfl, hb1⟩
    have ez : (w.alloc (.cells Z32a 122)).heap.size = w.heap.size + 1 := by simp
    rw [ez] at hb1
    have R1 := Lib.hid (show Blk w1 w.heap.size 122 Z32a from (Blk.new w _ _).below hb1 (by omega))
    have HB1 := Lib.hid (((Below.refl w.heap.size w).alloc (Nat.le_refl _) (.cells Z32a 122)).trans (hb1.mono (by omega)))
    have hs1 : w.heap.size + 1 ≤ w1.heap.size := by have := hb1.size; rw [ez] at this; exact this
    have N1 := Lib.hid (Blk.new w1 132 Z8a)
    clear hb1
    go_wp2_with (refine wpList_store_blk rfl 132 (.tmp 3) (.tmp 8) rfl w1.heap.size HA rfl rfl 132 Z8a N1.out IH.out ZH.out OH.out ?_)
    intro w2 m0 mb mo msz
    have S2 := Lib.hid m0
    have HB2 := Lib.hid ((HB1.out.alloc HB1.out.size (.cells Z8a 132)).trans ((mb w1.heap.size (Nat.le_refl _)).mono HB1.out.size))
    have R2 := Lib.hid ((R1.out.alloc (.cells Z8a 132)).below (mb w1.heap.size (Nat.le_refl _)) (by omega))
    have hs2 : w1.heap.size < w2.heap.size := by have : w2.heap.size = w1.heap.size + 1 := by simpa using msz
                                                 omega
    obtain ⟨ps, hps⟩ : ∃ p, p = w1.heap.size := ⟨_, rfl⟩
    have hps2 : w.heap.size < ps := by omega
    rw [← hps] at S2 hs2
    rw [← hps]
    clear m0 mb mo msz N1 R1 HB1 hps
    go_wp2_with fail
    refine (HCL.out w2 HB2.out).mono ?_
    rintro e w3 ⟨cv, rfl, hown, hb3⟩
    obtain ⟨y1, y2, y3, rfl⟩ := slOf hown
    have HO3 := Lib.hid hown
    have HB3 := Lib.hid hb3
    clear hown hb3
    go_wp2_with fail
    refine (HTL.out w3).mono ?_
    rintro e w4 ⟨tv, rfl, hown, hb4⟩
    obtain ⟨x1, x2, x3, rfl⟩ := slOf hown
    have HT4 := Lib.hid hown.rd
    have HO4 := Lib.hid (HO3.out.below hb4 (Nat.le_refl _))
    have HB4 := Lib.hid (HB3.out.trans (hb4.mono HB3.out.size))
    clear hown hb4 HO3 HB3
    go_wp2_with (at_builtin; refine wpList_app rfl (.tmp 10) (.tmp 13) 29 rfl w2.heap.size 5 _ 1 bytesE _ (bvs L) rfl HO4.out _ (bvs (tailL n)) rfl HT4.out (bvs_one _) ?c2 ?c3 ?_)
    case c2 =>
      have e := congrArg List.length HPE.out
      rw [List.length_append, bvs_len P] at e
      omega
    case c3 => exact HB4.out.size
    rintro rv w5 hown - hb5
    rw [HPE.out] at hown
    obtain ⟨z1, z2, z3, rfl⟩ := slOf hown
    have HR5 := Lib.hid hown.rd
    have HNE := Lib.hid (show ∀ a n c, Value.slice z1 z2 z3 = .slice (some a) n c → a.block ≠ ps from fun a n' c' e => by
      simp only [Value.slice.injEq] at e
      obtain ⟨rfl, rfl, rfl⟩ := e
      rcases hown.2 with ⟨e, _⟩ | ⟨gg, cp, cur, e, hg, _⟩
      · cases e
      · simp only [Value.slice.injEq, Option.some.injEq] at e
        rw [e.1]
        show gg ≠ ps
        omega)
    have S5 := Lib.hid ((show Blk w2 ps 132 HA from S2.out).below (HB4.out.trans hb5) (by omega))
    have R5 := Lib.hid (R2.out.below (HB4.out.trans hb5) R2.out.lt)
    have HB5 := Lib.hid (HB2.out.trans ((HB4.out.trans hb5).mono HB2.out.size))
    clear hown hb5 HO4 HT4 HB4 S2 R2 HB2
    go_wp2_with fail
    go_step3
    simp only [Exit.then]
    apply_assumption
    refine HJ.out _ _ ⟨ps, 0, z2, z3, z1, hps2, ?_, ?_, R5.out, ?_, ?_, HB5.out, _, _, _, _, _, _, _, _, _, _, _, _, _, _, _, _, _, _, _, _, _, _, _, _, _, _, _, _, _, _, _, _, _, _, _, _, _, _, _, _, _, _, _, _, _, _, _, _, _, _, _, _, rfl⟩
    · obtain ⟨a', c', e, -, -, -⟩ := HR5.out
      simp only [Value.slice.injEq] at e
      rw [e.2.1, bvs_len]; rfl
    · have e : blocksN P HL0 0 = HL0 := rfl
      rw [e]
      have := S5.out
      rw [HAE.out] at this
      exact this
    · exact HR5.out
    · intro a e; exact HNE.out a _ _ (by rw [e])
end Go.Proofs.Ytohldijomcljkaa
