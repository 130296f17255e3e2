/- Walks: slices.Clone of numbers, node.copyLeaf. -/
import Derived.Test.YtngealmhgkoaiaaGreatZHashStands08
import Derived.Test.YtngealmhgkoaiaaGreatZHashStands03
import Derived.Test.YtngealmhgkoaiaaGreatZHashStands14
import Derived.Test.YtngealmhgkoaiaaGreatZHashStands00
import Derived.Test.YtngealmhgkoaiaaGreatZHashStands04
import Derived.Test.YtngealmhgkoaiaaGreatZHashStands02
import Derived.Deep.RegionWith
namespace Go.Proofs.YtngealmhgkoaiaaGreat
open Go.RowKit WireM
set_option linter.unusedVariables false
theorem ivs_one' (L : List Int) : ∀ u ∈ ivs .i64 L, u.oneCell' = true := by
 intro u hu
 simp only [ivs, List.mem_map] at hu
 obtain ⟨n, _, rfl⟩ := hu
 rfl
set_option maxRecDepth 100000 in
set_option maxHeartbeats 1000000 in
theorem iclone_any (v : Value) (L : List Int) (w : World) (h : Rd w v (ivs .i64 L)) (hn : L.length < 1099511627776) :
  Calls Tryz.prog 153 #[v] w fun e w' => ∃ v', e = .returned v' ∧ Own w' w.heap.size 3 v' (ivs .i64 L) ∧ Below w.heap.size w w' := by
 have hl : (ivs .i64 L).length = L.length := ivs_len' .i64 L
 have h1 := ivs_one' L
 rcases h.nilOr with rfl | ⟨a, cap, rfl⟩
 ·have h0 : ivs .i64 L = [] := by
   obtain ⟨a, cap, e, _⟩ := h
   simp only [Value.slice.injEq] at e
   exact List.eq_nil_of_length_eq_zero e.2.1.symm
  rw [h0]
  clear h h0 hl h1
  have q : ∀ w, (binOp .eql 50 (.slice none 0 0) (.slice none 0 0)).run Tryz.prog w = .ok (.bool true) w := fun w => Lib.run_eql_slice_nil w _ 3 none 0 0 0 0 Tryz.underlying50
  go_enter Tryz.func153, Tryz.ntmps153
  go_wp2_with fail
  go_ret
  exact ⟨_, rfl, Own.nil _ _ _, Below.refl _ _⟩
 ·obtain ⟨xs, hxs⟩ : ∃ xs, xs = ivs .i64 L := ⟨_, rfl⟩
  rw [← hxs] at h h1 hl ⊢
  have hx : xs.length < 1099511627776 := by omega
  have HR := Lib.hid h
  have H1 := Lib.hid h1
  clear h h1 hl hxs hn
  have q : ∀ w, (binOp .eql 50 (.slice (some a) xs.length cap) (.slice none 0 0)).run Tryz.prog w = .ok (.bool false) w := fun w => Lib.run_eql_slice_nil w _ 3 (some a) _ _ 0 0 Tryz.underlying50
  go_enter Tryz.func153, Tryz.ntmps153
  go_wp2_with (at_builtin; refine wpList_app rfl (.tmp 5) (.tmp 6) 50 rfl w.heap.size 3 _ 8 intsE _ [] rfl (Own.lit0 rfl (Nat.le_refl _)) _ xs rfl (HR.out.alloc _) H1.out ?c2 ?c3 ?_)
  case c2 => simpa using hx
  case c3 => simp
  rintro v' w2 hown - hb
  have HO := Lib.hid hown
  have HB := Lib.hid hb
  clear hown hb
  go_wp2_with fail
  go_ret
  exact ⟨_, rfl, HO.out, ((Below.refl _ _).alloc (Nat.le_refl _) _).trans HB.out⟩
/-- what is owned lies in no block of another type -/
theorem Own.ne_blk {w : World} {B g : Nat} {e t : TypeId} {v : Value} {xs : List Value} {cs : Array Value} (h : Own w B e v xs) (hb : Blk w g t cs) (hne : e ≠ t) : v.ownBlock ≠ some g := by
 intro hv
 rcases h.2 with ⟨rfl, _⟩ | ⟨g', cp, cur, rfl, hg, hh, _⟩
 ·simp [Value.ownBlock] at hv
 ·simp [Value.ownBlock] at hv
  subst hv
  rw [Blk] at hb
  rw [hh] at hb
  simp at hb
  exact hne hb.2
/-- the six cells of a leaf in new memory -/
def LeafO (w : World) (B : Nat) (d : LeafD) (c : Array Value) : Prop :=
 ∃ c0 c1 c2 c3 c4, c = #[c0, c1, c2, .int .u8 (d.source : Nat), c3, c4] ∧ Own w B 5 c0 (bvs d.box) ∧ Own w B 5 c1 (bvs d.sign) ∧ Own w B 5 c2 (bvs d.ident) ∧ Own w B 5 c3 (bvs d.par) ∧ Own w B 5 c4 (bvs d.sig)
/-- in the loop over the five lists: so many are copied -/
def LfJ (B g p r : Nat) (d : LeafD) (o0 o1 o2 o3 o4 : Value) (Z : Array Value) (i : Nat) (w : World) : Prop :=
 ∃ c0 c1 c2 c3 c4 : Value, Blk w g 49 #[c0, c1, c2, .int .u8 (d.source : Nat), c3, c4] ∧ Blk w p 216 #[.pointer (some ⟨g, 0, none⟩), .pointer (some ⟨g, 1, none⟩), .pointer (some ⟨g, 2, none⟩), .pointer (some ⟨g, 4, none⟩), .pointer (some ⟨g, 5, none⟩)] ∧ Blk w r 49 Z ∧
  (if 0 < i then Own w B 5 c0 (bvs d.box) else c0 = o0) ∧ (if 1 < i then Own w B 5 c1 (bvs d.sign) else c1 = o1) ∧ (if 2 < i then Own w B 5 c2 (bvs d.ident) else c2 = o2) ∧ (if 3 < i then Own w B 5 c3 (bvs d.par) else c3 = o3) ∧ (if 4 < i then Own w B 5 c4 (bvs d.sig) else c4 = o4)
theorem slOf' {w : World} {B : Nat} {e : TypeId} {v : Value} {xs : List Value} (h : Own w B e v xs) : ∃ a n c, v = .slice a n c := by
 obtain ⟨a, c, e, _⟩ := h.rd
 exact ⟨_, _, _, e⟩
set_option maxRecDepth 100000 in
set_option maxHeartbeats 8000000 in
theorem copyLeaf_any (d : LeafD) (c : Array Value) (w : World) (h : LeafC w d c) (h60 : d.box.length < 1000000 ∧ d.sign.length < 1000000 ∧ d.ident.length < 1000000 ∧ d.par.length < 1000000 ∧ d.sig.length < 1000000) :
  Calls Tryz.prog 179 #[.agg c] w fun e w' => ∃ c', e = .returned (.agg c') ∧ LeafO w' w.heap.size d c' ∧ Below w.heap.size w w' := by
 obtain ⟨a1, c1, a2, c2, a3, c3, a4, c4, a5, c5, rfl, h1, h2, h3, h4, h5⟩ := h
 have C1 := Lib.hid (fun (W : World) (hw : Below w.heap.size w W) => bclone_any _ d.box W (h1.below hw (Nat.le_refl _)) (by omega))
 have C2 := Lib.hid (fun (W : World) (hw : Below w.heap.size w W) => bclone_any _ d.sign W (h2.below hw (Nat.le_refl _)) (by omega))
 have C3 := Lib.hid (fun (W : World) (hw : Below w.heap.size w W) => bclone_any _ d.ident W (h3.below hw (Nat.le_refl _)) (by omega))
 have C4 := Lib.hid (fun (W : World) (hw : Below w.heap.size w W) => bclone_any _ d.par W (h4.below hw (Nat.le_refl _)) (by omega))
 have C5 := Lib.hid (fun (W : World) (hw : Below w.heap.size w W) => bclone_any _ d.sig W (h5.below hw (Nat.le_refl _)) (by omega))
 obtain ⟨l1, hl1⟩ : ∃ l, l = d.box.length := ⟨_, rfl⟩
 obtain ⟨l2, hl2⟩ : ∃ l, l = d.sign.length := ⟨_, rfl⟩
 obtain ⟨l3, hl3⟩ : ∃ l, l = d.ident.length := ⟨_, rfl⟩
 obtain ⟨l4, hl4⟩ : ∃ l, l = d.par.length := ⟨_, rfl⟩
 obtain ⟨l5, hl5⟩ : ∃ l, l = d.sig.length := ⟨_, rfl⟩
 obtain ⟨s, hsrc⟩ : ∃ s, s = d.source := ⟨_, rfl⟩
 rw [← hl1, ← hl2, ← hl3, ← hl4, ← hl5, ← hsrc]
 rw [← hl1] at C1
 rw [← hl2] at C2
 rw [← hl3] at C3
 rw [← hl4] at C4
 rw [← hl5] at C5
 have HS := Lib.hid hsrc
 clear h1 h2 h3 h4 h5 hl1 hl2 hl3 hl4 hl5 hsrc h60
 go_enter Tryz.func179, Tryz.ntmps179
 go_wp2_with fail
 obtain ⟨wz, hwz⟩ : ∃ X, X = ((w.alloc (.cells #[.slice a1 l1 c1, .slice a2 l2 c2, .slice a3 l3 c3, .int .u8 (s : Nat), .slice a4 l4 c4, .slice a5 l5 c5] 49)).alloc (.cells #[.slice none 0 0, .slice none 0 0, .slice none 0 0, .int .u8 0, .slice none 0 0, .slice none 0 0] 49)).alloc (.cells #[.pointer (some ⟨w.heap.size, 0, none⟩), .pointer (some ⟨w.heap.size, 1, none⟩), .pointer (some ⟨w.heap.size, 2, none⟩), .pointer (some ⟨w.heap.size, 4, none⟩), .pointer (some ⟨w.heap.size, 5, none⟩)] 216) := ⟨_, rfl⟩
 have hA := (Below.refl w.heap.size w).alloc (Nat.le_refl _) (.cells #[.slice a1 l1 c1, .slice a2 l2 c2, .slice a3 l3 c3, .int .u8 (s : Nat), .slice a4 l4 c4, .slice a5 l5 c5] 49)
 have B0 := Lib.hid (show Blk wz w.heap.size 49 #[.slice a1 l1 c1, .slice a2 l2 c2, .slice a3 l3 c3, .int .u8 (s : Nat), .slice a4 l4 c4, .slice a5 l5 c5] by rw [hwz]; exact ((Blk.new w _ _).alloc _).alloc _)
 have B1 := Lib.hid (show Blk wz (w.heap.size + 1) 49 #[.slice none 0 0, .slice none 0 0, .slice none 0 0, .int .u8 0, .slice none 0 0, .slice none 0 0] by
  have h1 := Blk.new (w.alloc (.cells #[.slice a1 l1 c1, .slice a2 l2 c2, .slice a3 l3 c3, .int .u8 (s : Nat), .slice a4 l4 c4, .slice a5 l5 c5] 49)) 49 #[.slice none 0 0, .slice none 0 0, .slice none 0 0, .int .u8 0, .slice none 0 0, .slice none 0 0]
  have h2 : Blk ((w.alloc (.cells #[.slice a1 l1 c1, .slice a2 l2 c2, .slice a3 l3 c3, .int .u8 (s : Nat), .slice a4 l4 c4, .slice a5 l5 c5] 49)).alloc (.cells #[.slice none 0 0, .slice none 0 0, .slice none 0 0, .int .u8 0, .slice none 0 0, .slice none 0 0] 49)) (w.heap.size + 1) 49 #[.slice none 0 0, .slice none 0 0, .slice none 0 0, .int .u8 0, .slice none 0 0, .slice none 0 0] := by simpa using h1
  rw [hwz]
  exact h2.alloc _)
 have B2 := Lib.hid (show Blk wz (w.heap.size + 1 + 1) 216 #[.pointer (some ⟨w.heap.size, 0, none⟩), .pointer (some ⟨w.heap.size, 1, none⟩), .pointer (some ⟨w.heap.size, 2, none⟩), .pointer (some ⟨w.heap.size, 4, none⟩), .pointer (some ⟨w.heap.size, 5, none⟩)] by rw [hwz]; have := Blk.new ((w.alloc (.cells #[.slice a1 l1 c1, .slice a2 l2 c2, .slice a3 l3 c3, .int .u8 (s : Nat), .slice a4 l4 c4, .slice a5 l5 c5] 49)).alloc (.cells #[.slice none 0 0, .slice none 0 0, .slice none 0 0, .int .u8 0, .slice none 0 0, .slice none 0 0] 49)) 216 #[.pointer (some ⟨w.heap.size, 0, none⟩), .pointer (some ⟨w.heap.size, 1, none⟩), .pointer (some ⟨w.heap.size, 2, none⟩), .pointer (some ⟨w.heap.size, 4, none⟩), .pointer (some ⟨w.heap.size, 5, none⟩)]; simpa using this)
 have HBZ := Lib.hid (show Below w.heap.size w wz by rw [hwz]; exact (hA.alloc hA.size _).alloc (hA.alloc hA.size _).size _)
 have HJ0 := Lib.hid (show LfJ w.heap.size w.heap.size (w.heap.size + 1 + 1) (w.heap.size + 1) d (.slice a1 l1 c1) (.slice a2 l2 c2) (.slice a3 l3 c3) (.slice a4 l4 c4) (.slice a5 l5 c5) #[.slice none 0 0, .slice none 0 0, .slice none 0 0, .int .u8 0, .slice none 0 0, .slice none 0 0] 0 wz from ⟨_, _, _, _, _, by rw [← HS.out]; exact B0.out, B2.out, B1.out, by simp, by simp, by simp, by simp, by simp⟩)
 rw [← hwz]
 clear hwz hA B0 B1 B2
 go_loopg [12] 5 (fun q iv wr => ∃ i : Nat, i + q = 5 ∧ iv = .int .i64 (i : Nat) ∧ LfJ w.heap.size w.heap.size (w.heap.size + 1 + 1) (w.heap.size + 1) d (.slice a1 l1 c1) (.slice a2 l2 c2) (.slice a3 l3 c3) (.slice a4 l4 c4) (.slice a5 l5 c5) #[.slice none 0 0, .slice none 0 0, .slice none 0 0, .int .u8 0, .slice none 0 0, .slice none 0 0] i wr ∧ Below w.heap.size w wr)
 case atStart => exact ⟨0, rfl, rfl, HJ0.out, HBZ.out⟩
 case round =>
  obtain ⟨i, hi, rfl, hJ, hb⟩ := hrel
  have HB := Lib.hid hb
  obtain ⟨x0, x1, x2, x3, x4, bg, bp, br, q0, q1, q2, q3, q4⟩ := hJ
  have HG := Lib.hid bg
  have HP := Lib.hid bp
  have HR := Lib.hid br
  have hgl : w.heap.size < wr.heap.size := bg.lt
  have hpl : w.heap.size + 1 + 1 < wr.heap.size := bp.lt
  have hrl : w.heap.size + 1 < wr.heap.size := br.lt
  rcases (show i = 0 ∨ i = 1 ∨ i = 2 ∨ i = 3 ∨ i = 4 ∨ i = 5 by omega) with rfl | rfl | rfl | rfl | rfl | rfl
  ·have hgk : gk = 5 := by omega
   have ez : ((0 : Nat) : Int) = 0 := rfl
   rw [ez]
   clear ez
   rw [if_neg (by omega)] at q0
   subst q0
   rw [if_neg (by omega)] at q1
   subst q1
   rw [if_neg (by omega)] at q2
   subst q2
   rw [if_neg (by omega)] at q3
   subst q3
   rw [if_neg (by omega)] at q4
   subst q4
   have kp : wr.cell? ⟨w.heap.size + 1 + 1, 0, none⟩ = some (.pointer (some ⟨w.heap.size, 0, none⟩)) := HP.out.cell 0
   have kc : wr.cell? ⟨w.heap.size, 0, none⟩ = some (.slice a1 l1 c1) := HG.out.cell 0
   clear hi hb bg bp br 
   go_wp2_with fail
   refine (C1.out wr HB.out).mono ?_
   rintro e w2 ⟨v2, rfl, hown, hb2⟩
   have KG := Lib.hid (HG.out.below hb2 hgl)
   have KP := Lib.hid (HP.out.below hb2 hpl)
   have KR := Lib.hid (HR.out.below hb2 hrl)
   have HO := Lib.hid (hown.mono HB.out.size)
   have HB2 := Lib.hid (HB.out.trans (hb2.mono HB.out.size))
   have kc2 : w2.cell? ⟨w.heap.size, 0, none⟩ = some (.slice a1 l1 c1) := KG.out.cell 0
   have kf2 : w2.frozen? ⟨w.heap.size, 0, none⟩ = false := KG.out.frozen 0
   obtain ⟨y1, y2, y3, rfl⟩ := slOf' hown
   clear hown hb2
   go_wp2_with fail
   subst hgk
   go_roundg 4
   case measure => omega
   case rel =>
    refine ⟨1, rfl, rfl, ⟨_, _, _, _, _, KG.out.set 0 _, KP.out.far (show w.heap.size + 1 + 1 ≠ w.heap.size by omega) _, KR.out.far (show w.heap.size + 1 ≠ w.heap.size by omega) _, ?_, ?_, ?_, ?_, ?_⟩, HB2.out.setCell (p := ⟨w.heap.size, 0, none⟩) (Nat.le_refl _) _⟩
    ·rw [if_pos (by omega)]; exact HO.out.setOther (a := ⟨w.heap.size, 0, none⟩) (HO.out.ne_blk KG.out (by decide)) _
    ·rw [if_neg (by omega)]
    ·rw [if_neg (by omega)]
    ·rw [if_neg (by omega)]
    ·rw [if_neg (by omega)]
  ·have hgk : gk = 4 := by omega
   have ez : ((1 : Nat) : Int) = 1 := rfl
   rw [ez]
   clear ez
   rw [if_pos (by omega)] at q0
   have HQ0 := Lib.hid q0
   rw [if_neg (by omega)] at q1
   subst q1
   rw [if_neg (by omega)] at q2
   subst q2
   rw [if_neg (by omega)] at q3
   subst q3
   rw [if_neg (by omega)] at q4
   subst q4
   have kp : wr.cell? ⟨w.heap.size + 1 + 1, 1, none⟩ = some (.pointer (some ⟨w.heap.size, 1, none⟩)) := HP.out.cell 1
   have kc : wr.cell? ⟨w.heap.size, 1, none⟩ = some (.slice a2 l2 c2) := HG.out.cell 1
   clear hi hb bg bp br q0
   go_wp2_with fail
   refine (C2.out wr HB.out).mono ?_
   rintro e w2 ⟨v2, rfl, hown, hb2⟩
   have KG := Lib.hid (HG.out.below hb2 hgl)
   have KP := Lib.hid (HP.out.below hb2 hpl)
   have KR := Lib.hid (HR.out.below hb2 hrl)
   have HO := Lib.hid (hown.mono HB.out.size)
   have HB2 := Lib.hid (HB.out.trans (hb2.mono HB.out.size))
   have HK0 := Lib.hid (HQ0.out.below hb2 (Nat.le_refl _))
   have kc2 : w2.cell? ⟨w.heap.size, 1, none⟩ = some (.slice a2 l2 c2) := KG.out.cell 1
   have kf2 : w2.frozen? ⟨w.heap.size, 1, none⟩ = false := KG.out.frozen 1
   obtain ⟨y1, y2, y3, rfl⟩ := slOf' hown
   clear hown hb2
   go_wp2_with fail
   subst hgk
   go_roundg 3
   case measure => omega
   case rel =>
    refine ⟨2, rfl, rfl, ⟨x0, _, _, _, _, KG.out.set 1 _, KP.out.far (show w.heap.size + 1 + 1 ≠ w.heap.size by omega) _, KR.out.far (show w.heap.size + 1 ≠ w.heap.size by omega) _, ?_, ?_, ?_, ?_, ?_⟩, HB2.out.setCell (p := ⟨w.heap.size, 1, none⟩) (Nat.le_refl _) _⟩
    ·rw [if_pos (by omega)]; exact HK0.out.setOther (a := ⟨w.heap.size, 1, none⟩) (HK0.out.ne_blk KG.out (by decide)) _
    ·rw [if_pos (by omega)]; exact HO.out.setOther (a := ⟨w.heap.size, 1, none⟩) (HO.out.ne_blk KG.out (by decide)) _
    ·rw [if_neg (by omega)]
    ·rw [if_neg (by omega)]
    ·rw [if_neg (by omega)]
  ·have hgk : gk = 3 := by omega
   have ez : ((2 : Nat) : Int) = 2 := rfl
   rw [ez]
   clear ez
   rw [if_pos (by omega)] at q0
   have HQ0 := Lib.hid q0
   rw [if_pos (by omega)] at q1
   have HQ1 := Lib.hid q1
   rw [if_neg (by omega)] at q2
   subst q2
   rw [if_neg (by omega)] at q3
   subst q3
   rw [if_neg (by omega)] at q4
   subst q4
   have kp : wr.cell? ⟨w.heap.size + 1 + 1, 2, none⟩ = some (.pointer (some ⟨w.heap.size, 2, none⟩)) := HP.out.cell 2
   have kc : wr.cell? ⟨w.heap.size, 2, none⟩ = some (.slice a3 l3 c3) := HG.out.cell 2
   clear hi hb bg bp br q0 q1
   go_wp2_with fail
   refine (C3.out wr HB.out).mono ?_
   rintro e w2 ⟨v2, rfl, hown, hb2⟩
   have KG := Lib.hid (HG.out.below hb2 hgl)
   have KP := Lib.hid (HP.out.below hb2 hpl)
   have KR := Lib.hid (HR.out.below hb2 hrl)
   have HO := Lib.hid (hown.mono HB.out.size)
   have HB2 := Lib.hid (HB.out.trans (hb2.mono HB.out.size))
   have HK0 := Lib.hid (HQ0.out.below hb2 (Nat.le_refl _))
   have HK1 := Lib.hid (HQ1.out.below hb2 (Nat.le_refl _))
   have kc2 : w2.cell? ⟨w.heap.size, 2, none⟩ = some (.slice a3 l3 c3) := KG.out.cell 2
   have kf2 : w2.frozen? ⟨w.heap.size, 2, none⟩ = false := KG.out.frozen 2
   obtain ⟨y1, y2, y3, rfl⟩ := slOf' hown
   clear hown hb2
   go_wp2_with fail
   subst hgk
   go_roundg 2
   case measure => omega
   case rel =>
    refine ⟨3, rfl, rfl, ⟨x0, x1, _, _, _, KG.out.set 2 _, KP.out.far (show w.heap.size + 1 + 1 ≠ w.heap.size by omega) _, KR.out.far (show w.heap.size + 1 ≠ w.heap.size by omega) _, ?_, ?_, ?_, ?_, ?_⟩, HB2.out.setCell (p := ⟨w.heap.size, 2, none⟩) (Nat.le_refl _) _⟩
    ·rw [if_pos (by omega)]; exact HK0.out.setOther (a := ⟨w.heap.size, 2, none⟩) (HK0.out.ne_blk KG.out (by decide)) _
    ·rw [if_pos (by omega)]; exact HK1.out.setOther (a := ⟨w.heap.size, 2, none⟩) (HK1.out.ne_blk KG.out (by decide)) _
    ·rw [if_pos (by omega)]; exact HO.out.setOther (a := ⟨w.heap.size, 2, none⟩) (HO.out.ne_blk KG.out (by decide)) _
    ·rw [if_neg (by omega)]
    ·rw [if_neg (by omega)]
  ·have hgk : gk = 2 := by omega
   have ez : ((3 : Nat) : Int) = 3 := rfl
   rw [ez]
   clear ez
   rw [if_pos (by omega)] at q0
   have HQ0 := Lib.hid q0
   rw [if_pos (by omega)] at q1
   have HQ1 := Lib.hid q1
   rw [if_pos (by omega)] at q2
   have HQ2 := Lib.hid q2
   rw [if_neg (by omega)] at q3
   subst q3
   rw [if_neg (by omega)] at q4
   subst q4
   have kp : wr.cell? ⟨w.heap.size + 1 + 1, 3, none⟩ = some (.pointer (some ⟨w.heap.size, 4, none⟩)) := HP.out.cell 3
   have kc : wr.cell? ⟨w.heap.size, 4, none⟩ = some (.slice a4 l4 c4) := HG.out.cell 4
   clear hi hb bg bp br q0 q1 q2
   go_wp2_with fail
   refine (C4.out wr HB.out).mono ?_
   rintro e w2 ⟨v2, rfl, hown, hb2⟩
   have KG := Lib.hid (HG.out.below hb2 hgl)
   have KP := Lib.hid (HP.out.below hb2 hpl)
   have KR := Lib.hid (HR.out.below hb2 hrl)
   have HO := Lib.hid (hown.mono HB.out.size)
   have HB2 := Lib.hid (HB.out.trans (hb2.mono HB.out.size))
   have HK0 := Lib.hid (HQ0.out.below hb2 (Nat.le_refl _))
   have HK1 := Lib.hid (HQ1.out.below hb2 (Nat.le_refl _))
   have HK2 := Lib.hid (HQ2.out.below hb2 (Nat.le_refl _))
   have kc2 : w2.cell? ⟨w.heap.size, 4, none⟩ = some (.slice a4 l4 c4) := KG.out.cell 4
   have kf2 : w2.frozen? ⟨w.heap.size, 4, none⟩ = false := KG.out.frozen 4
   obtain ⟨y1, y2, y3, rfl⟩ := slOf' hown
   clear hown hb2
   go_wp2_with fail
   subst hgk
   go_roundg 1
   case measure => omega
   case rel =>
    refine ⟨4, rfl, rfl, ⟨x0, x1, x2, _, _, KG.out.set 4 _, KP.out.far (show w.heap.size + 1 + 1 ≠ w.heap.size by omega) _, KR.out.far (show w.heap.size + 1 ≠ w.heap.size by omega) _, ?_, ?_, ?_, ?_, ?_⟩, HB2.out.setCell (p := ⟨w.heap.size, 4, none⟩) (Nat.le_refl _) _⟩
    ·rw [if_pos (by omega)]; exact HK0.out.setOther (a := ⟨w.heap.size, 4, none⟩) (HK0.out.ne_blk KG.out (by decide)) _
    ·rw [if_pos (by omega)]; exact HK1.out.setOther (a := ⟨w.heap.size, 4, none⟩) (HK1.out.ne_blk KG.out (by decide)) _
    ·rw [if_pos (by omega)]; exact HK2.out.setOther (a := ⟨w.heap.size, 4, none⟩) (HK2.out.ne_blk KG.out (by decide)) _
    ·rw [if_pos (by omega)]; exact HO.out.setOther (a := ⟨w.heap.size, 4, none⟩) (HO.out.ne_blk KG.out (by decide)) _
    ·rw [if_neg (by omega)]
  ·have hgk : gk = 1 := by omega
   have ez : ((4 : Nat) : Int) = 4 := rfl
   rw [ez]
   clear ez
   rw [if_pos (by omega)] at q0
   have HQ0 := Lib.hid q0
   rw [if_pos (by omega)] at q1
   have HQ1 := Lib.hid q1
   rw [if_pos (by omega)] at q2
   have HQ2 := Lib.hid q2
   rw [if_pos (by omega)] at q3
   have HQ3 := Lib.hid q3
   rw [if_neg (by omega)] at q4
   subst q4
   have kp : wr.cell? ⟨w.heap.size + 1 + 1, 4, none⟩ = some (.pointer (some ⟨w.heap.size, 5, none⟩)) := HP.out.cell 4
   have kc : wr.cell? ⟨w.heap.size, 5, none⟩ = some (.slice a5 l5 c5) := HG.out.cell 5
   clear hi hb bg bp br q0 q1 q2 q3
   go_wp2_with fail
   refine (C5.out wr HB.out).mono ?_
   rintro e w2 ⟨v2, rfl, hown, hb2⟩
   have KG := Lib.hid (HG.out.below hb2 hgl)
   have KP := Lib.hid (HP.out.below hb2 hpl)
   have KR := Lib.hid (HR.out.below hb2 hrl)
   have HO := Lib.hid (hown.mono HB.out.size)
   have HB2 := Lib.hid (HB.out.trans (hb2.mono HB.out.size))
   have HK0 := Lib.hid (HQ0.out.below hb2 (Nat.le_refl _))
   have HK1 := Lib.hid (HQ1.out.below hb2 (Nat.le_refl _))
   have HK2 := Lib.hid (HQ2.out.below hb2 (Nat.le_refl _))
   have HK3 := Lib.hid (HQ3.out.below hb2 (Nat.le_refl _))
   have kc2 : w2.cell? ⟨w.heap.size, 5, none⟩ = some (.slice a5 l5 c5) := KG.out.cell 5
   have kf2 : w2.frozen? ⟨w.heap.size, 5, none⟩ = false := KG.out.frozen 5
   obtain ⟨y1, y2, y3, rfl⟩ := slOf' hown
   clear hown hb2
   go_wp2_with fail
   subst hgk
   go_roundg 0
   case measure => omega
   case rel =>
    refine ⟨5, rfl, rfl, ⟨x0, x1, x2, x3, _, KG.out.set 5 _, KP.out.far (show w.heap.size + 1 + 1 ≠ w.heap.size by omega) _, KR.out.far (show w.heap.size + 1 ≠ w.heap.size by omega) _, ?_, ?_, ?_, ?_, ?_⟩, HB2.out.setCell (p := ⟨w.heap.size, 5, none⟩) (Nat.le_refl _) _⟩
    ·rw [if_pos (by omega)]; exact HK0.out.setOther (a := ⟨w.heap.size, 5, none⟩) (HK0.out.ne_blk KG.out (by decide)) _
    ·rw [if_pos (by omega)]; exact HK1.out.setOther (a := ⟨w.heap.size, 5, none⟩) (HK1.out.ne_blk KG.out (by decide)) _
    ·rw [if_pos (by omega)]; exact HK2.out.setOther (a := ⟨w.heap.size, 5, none⟩) (HK2.out.ne_blk KG.out (by decide)) _
    ·rw [if_pos (by omega)]; exact HK3.out.setOther (a := ⟨w.heap.size, 5, none⟩) (HK3.out.ne_blk KG.out (by decide)) _
    ·rw [if_pos (by omega)]; exact HO.out.setOther (a := ⟨w.heap.size, 5, none⟩) (HO.out.ne_blk KG.out (by decide)) _
  ·rw [if_pos (by omega)] at q0 q1 q2 q3 q4
   have ez : ((5 : Nat) : Int) = 5 := rfl
   rw [ez]
   have HQ := Lib.hid (And.intro q0 (And.intro q1 (And.intro q2 (And.intro q3 q4))))
   have hone : (#[x0, x1, x2, .int .u8 (d.source : Nat), x3, x4] : Array Value).toList.all (·.oneCell') = true := by
    simp only [List.all_cons, List.all_nil, Bool.and_true, q0.oneCell, q1.oneCell, q2.oneCell, q3.oneCell, q4.oneCell, Bool.true_and]; rfl
   have HONE := Lib.hid hone
   obtain ⟨XS, hXS⟩ : ∃ X, X = (#[x0, x1, x2, .int .u8 (d.source : Nat), x3, x4] : Array Value) := ⟨_, rfl⟩
   rw [← hXS] at HONE HG
   have HIN := Lib.hid (show (Tryz.prog.info? 49).map (·.size) = some XS.size by rw [hXS]; kernel_rfl)
   have HZS := Lib.hid (show (#[.slice none 0 0, .slice none 0 0, .slice none 0 0, .int .u8 0, .slice none 0 0, .slice none 0 0] : Array Value).size = XS.size by rw [hXS]; rfl)
   have HXE := Lib.hid hXS
   clear hi hb bg bp br q0 q1 q2 q3 q4 ez hone hXS
   go_wp2_with (first | (refine wpList_load_row rfl 49 (.tmp 1) rfl w.heap.size rfl 49 XS (0, 0) _ HG.out Tryz.underlying49 rfl HIN.out ?_) | (refine wpList_store_blk rfl 49 (.tmp 2) (.tmp 23) rfl (w.heap.size + 1) XS rfl rfl 49 #[.slice none 0 0, .slice none 0 0, .slice none 0 0, .int .u8 0, .slice none 0 0, .slice none 0 0] HR.out HIN.out HZS.out HONE.out ?_))
   intro w3 m0 mb mo msz
   have M0 := Lib.hid m0
   have HB3 := Lib.hid (HB.out.trans ((mb (w.heap.size + 1) (Nat.le_refl _)).mono (by omega)))
   have M3 := Lib.hid (show ∀ v L, Own wr w.heap.size 5 v L → Own w3 w.heap.size 5 v L from fun v L hv => by
    refine ⟨hv.1, ?_⟩
    rcases hv.2 with h | ⟨g', cp, cur, e, hg, hh, rest⟩
    ·exact .inl h
    ·refine .inr ⟨g', cp, cur, e, hg, ?_, rest⟩
     rw [mo g' (fun e2 => hv.ne_blk HR.out (by decide) (by rw [e, ← e2]; rfl))]
     exact hh)
   clear m0 mb mo msz
   go_wp2_with fail
   exact bodyPost_ret (v := .agg XS) (results_row1 rfl _ _ (w.heap.size + 1) 49 XS _ rfl M0.out Tryz.underlying49 rfl HIN.out) rfl ⟨XS, rfl, ⟨x0, x1, x2, x3, x4, HXE.out, M3.out _ _ HQ.out.1, M3.out _ _ HQ.out.2.1, M3.out _ _ HQ.out.2.2.1, M3.out _ _ HQ.out.2.2.2.1, M3.out _ _ HQ.out.2.2.2.2⟩, HB3.out⟩
end Go.Proofs.YtngealmhgkoaiaaGreat
/- Walks: a reader's length. -/
namespace Go.Proofs.YtngealmhgkoaiaaGreat
open Go.RowKit WireM
set_option linter.unusedVariables false
end Go.Proofs.YtngealmhgkoaiaaGreat
/- Walks: a reader's length at any state, Take, Vec. -/
namespace Go.Proofs.YtngealmhgkoaiaaGreat
open Go.RowKit WireM
set_option linter.unusedVariables false
end Go.Proofs.YtngealmhgkoaiaaGreat
/- Walks: the law's alive, WireLens. -/
namespace Go.Proofs.YtngealmhgkoaiaaGreat
open Go.RowKit WireM
set_option linter.unusedVariables false
end Go.Proofs.YtngealmhgkoaiaaGreat
