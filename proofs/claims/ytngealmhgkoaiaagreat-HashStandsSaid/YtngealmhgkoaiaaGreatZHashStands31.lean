/- Append on a slice that the call owns, as one step of a region that draws its order. -/
import Derived.Test.YtngealmhgkoaiaaGreatZHashStands00
import Derived.Deep.RegionLaw
import Derived.Test.YtngealmhgkoaiaaGreatZHashStands12
import Derived.Test.YtngealmhgkoaiaaGreatZHashStands05
import Derived.Test.YtngealmhgkoaiaaGreatZHashStands20
import Derived.RegionTactic
import Derived.Test.YtngealmhgkoaiaaGreatZHashStands07
import Derived.ArgAppend
import Derived.Test.YtngealmhgkoaiaaGreatZHashStands30
import Derived.Deep.MidRow
namespace Go.Proofs.YtngealmhgkoaiaaGreat
open Go.RowKit
theorem wp_app {P : Program} {w : World} {o : Oper} {a : Act} {K : Act → World → Prop} {Q : Exit → Act → World → Prop} (s x : Operand) (t : TypeId)
  (ho : o.op = .call { callee := .builtin .append, args := #[s, x], argTypes := #[t, t] })
  (B : Nat) (e : TypeId) (z : Value) (bytes : Nat) (F : Elem P t e z bytes)
  (v : Value) (xs : List Value) (hs : a.eval s = v) (hown : Own w B e v xs)
  (r : Value) (ys : List Value) (hx : a.eval x = r) (hr : Rd w r ys) (h1 : ∀ u ∈ ys, u.oneCell' = true)
  (hn : xs.length + ys.length < 1099511627776) (hB : B ≤ w.heap.size)
  (h : ∀ v' w', Own w' B e v' (xs ++ ys) → Below B w w' → K (a.put o.dst v') w') : o.wp P a w K Q := by
 obtain ⟨i, hi, hz, hsz, hby⟩ := info_parts F.inf
 have low := F.low
 have hmul : (xs.length + ys.length) * bytes ≤ (xs.length + ys.length) * 64 := Nat.mul_le_mul_left _ low
 have fin : ∀ (ad : Addr) cap, r = .slice (some ad) ys.length cap → (∀ (j : Nat) u, ys[j]? = some u → w.cell? (ad.add j) = some u) → o.wp P a w K Q := by
  intro ad cap hv hu
  subst hv
  refine wp_append_own w s x t ho B e i z 1 bytes F.ty hi hz hsz hby F.one (by omega) v xs.length xs hs hown ad ys.length cap ys hx (by omega) hu h1 (by unfold maxLen; omega) (by omega) hB ?_
  intro v' w' h2 h3 _
  have e1 : (xs ++ ys).length = xs.length + ys.length := by simp
  refine h v' w' (by unfold Own; rw [e1]; exact h2) ?_
  refine (Below.refl B w).grown h3 hB ?_
  intro k hk
  exact (World.ownsRow.lt hown k hk).1
 obtain ⟨ad, cap, rfl, _, _, ⟨rfl, hcap⟩ | ⟨b, off, rfl, hc⟩⟩ := hr
 ·cases ad with
  | none =>
   obtain rfl := hcap rfl
   have hrun := run_append_owned_none (P := P) (w := w) B t o.type e i 1 F.ty hi v xs.length xs hown
   unfold Oper.wp
   have hx' : a.eval x = .slice none 0 0 := hx
   simp [execOp, ho, resolve, invoke, builtin, hs, hx', hrun, Result.andThen]
   exact h v w (by simpa using hown) (Below.refl _ _)
  | some ad => exact fin ad cap rfl (by simp)
 ·exact fin _ cap rfl (fun j u hu => by rw [Addr.add_lit]; exact hc j u hu)
end Go.Proofs.YtngealmhgkoaiaaGreat
/- Walks: the law's alive, HashTexts. -/
namespace Go.Proofs.YtngealmhgkoaiaaGreat
open Go.RowKit WireM
set_option linter.unusedVariables false
theorem lt18 (w : World) : Calls Tryz.prog 81 #[.int .i64 2, .agg #[.int .u8 0, .slice none 0 0, .slice none 0 0, .slice none 0 0, .int .u8 0, .slice none 0 0, .slice none 0 0, .slice none 0 0, .slice none 0 0, .slice none 0 0]] w fun e w' => Below w.heap.size w w' ∧ ∃ v, e = .returned (.tuple #[v, .int .u8 0]) ∧ Own w' w.heap.size 5 v (bvs [1, 0, 0, 0, 2, 0]) := by
 have P := leafText_any 2 noNodeD _ w (noNode_c w) noNode_ok (by decide)
 have e0 : ltF 2 noNodeD = ([1, 0, 0, 0, 2, 0], 0) := by
  have h1 : rightB noNodeD = true := by decide
  have h2 : nodeB noNodeD = [0] := by decide
  have h3 : noNodeD.kind = 0 := rfl
  have h4 : beN 4 (2:Int).toNat = [0,0,0,2] := by decide
  unfold ltF
  rw [if_neg (by omega), h1, h2, h3, h4, if_neg (by simp)]
  rfl
 unfold TextP at P
 rw [e0] at P
 exact P
set_option maxRecDepth 100000 in
set_option maxHeartbeats 2000000 in
theorem alive18 (w : World) : Calls Tryz.prog 23 #[] w fun e w' => e = .returned (.bool true) ∧ Below w.heap.size w w' := by
 have HP := Lib.hid (fun w => lt18 w)
 go_enter Tryz.func23, Tryz.ntmps23
 go_wp2_with fail
 refine (HP.out _).mono ?_
 rintro e w1 ⟨hb1, v1, rfl, hown⟩
 have HB1 := Lib.hid hb1
 have HS := Lib.hid (same_dec v1 _ [1, 0, 0, 0, 2, 0] [1, 0, 0, 0, 2, 0] _ ((hown.alloc _).rd) (lit_rd (w := w1) (cs := #[.int .u8 1, .int .u8 0, .int .u8 0, .int .u8 0, .int .u8 2, .int .u8 0]) (L := [1, 0, 0, 0, 2, 0]) rfl rfl (by simp)) (by decide) (by decide) true (by decide))
 clear hown hb1
 go_wp2_with fail
 refine HS.out.mono ?_
 rintro e w' ⟨rfl, n, rfl⟩
 go_wp2_with fail
 go_ret
 exact ⟨rfl, below_drewN' (HB1.out.alloc HB1.out.size _) _⟩
end Go.Proofs.YtngealmhgkoaiaaGreat
/- Walks: the reference's Put, the law's put. -/
namespace Go.Proofs.YtngealmhgkoaiaaGreat
open Go.RowKit WireM
set_option linter.unusedVariables false
theorem catB_lt : ∀ (l : List (List Nat)), (∀ r ∈ l, r.length ≤ 200) → (∀ r ∈ l, ∀ x ∈ r, x < 256) → ∀ x ∈ catB l, x < 256 := by
 intro l h1 h2 x hx
 simp only [catB, List.mem_flatten, List.mem_map] at hx
 obtain ⟨y, ⟨r, hr, rfl⟩, hx⟩ := hx
 exact vecB_lt (by have := h1 r hr; omega) (h2 r hr) x hx
end Go.Proofs.YtngealmhgkoaiaaGreat
/- The laws that the walks of HashTexts share. -/
namespace Go.Proofs.YtngealmhgkoaiaaGreat
open Go.RowKit WireM
set_option linter.unusedVariables false
theorem lateL_lt (L : List Int) : ∀ x ∈ lateL L, x < 256 := by
 intro x hx
 simp only [lateL, List.mem_flatten, List.mem_map] at hx
 obtain ⟨y, ⟨z, _, rfl⟩, hx⟩ := hx
 exact beN_lt _ _ x hx
theorem nodeB_lt {d : NodeD} (hk : NodeOk d) (hs : smallB d = true) : ∀ x ∈ nodeB d, x < 256 := by
 have hsm := of_decide_eq_true hs
 have hl := lateL_len d.par.late
 unfold nodeB
 split
 ·intro x hx
  rw [List.mem_cons, List.mem_append] at hx
  rcases hx with rfl | hx | hx
  ·omega
  ·rw [unsB, List.mem_append, List.mem_append] at hx
   rcases hx with (hx | hx) | hx
   ·refine catB_lt _ ?_ ?_ x hx
    ·intro r hr; simp at hr; rcases hr with rfl | rfl | rfl <;> omega
    ·intro r hr; simp at hr; rcases hr with rfl | rfl | rfl
     ·exact hk.box
     ·exact hk.sign
     ·exact hk.ident
   ·rw [List.mem_singleton] at hx; have := hk.source; omega
   ·split at hx
    ·exact vecB_lt (by omega) hk.par x hx
    ·cases hx
  ·exact vecB_lt (by omega) hk.sig x hx
 ·split
  ·intro x hx
   rw [List.mem_cons, parB, List.mem_append, List.mem_append] at hx
   rcases hx with rfl | (hx | hx) | hx
   ·omega
   ·exact vecB_lt (by omega) hk.pbox x hx
   ·exact vecB_lt (by omega) hk.hash x hx
   ·exact vecB_lt (by omega) (lateL_lt _) x hx
  ·intro x hx; simp at hx; omega
theorem ev {a : Act} {s : Nat} {v : Value} (h : a.tmps[s]?.getD undef = v) : a.eval (.tmp s) = v := by
 first
 | exact h
 | simpa [Act.eval, Array.getD_eq_getD_getElem?] using h
end Go.Proofs.YtngealmhgkoaiaaGreat
/- Plain: what is digested are bytes. -/
namespace Go.Proofs.YtngealmhgkoaiaaGreat
open Go.RowKit WalkM ShaM WireM
set_option linter.unusedVariables false
theorem woD_ok {t : List NodeD} (hok : TreeOk t) (ps : List Int) (x : Nat) : NodeOk (woD t ps x) := by
 have h := hok.nd x
 unfold woD
 split
 ·split
  ·exact noNode_ok
  ·exact h
 ·exact ⟨h.kind, h.source, h.box, h.sign, h.ident, h.par, h.sig, h.pbox, h.hash, fun u hu => h.late u (List.mem_filter.1 hu).1⟩
theorem textN_lt' (t : Nat → NodeD) (hk : ∀ x, NodeOk (t x)) (hs : ∀ x, smallB (t x) = true) (k x : Nat) : ∀ y ∈ textN t k x, y < 256 := by
 have hn := nodeB_lt (hk x) (hs x)
 intro y hy
 cases k with
 | zero =>
  rw [textN_zero] at hy
  simp only [List.mem_append, List.mem_cons, List.not_mem_nil, or_false] at hy
  rcases hy with (rfl | hy) | hy
  ·omega
  ·exact beN_lt _ _ y hy
  ·exact hn y hy
 | succ k =>
  rw [textN_succ] at hy
  simp only [List.mem_append, List.mem_cons, List.not_mem_nil, or_false] at hy
  rcases hy with (rfl | hy) | hy | hy
  ·omega
  ·exact hn y hy
  ·exact vecB_lt (by rw [hashN_len]; omega) (hashN_lt _ _ _) y hy
  ·exact vecB_lt (by rw [hashN_len]; omega) (hashN_lt _ _ _) y hy
end Go.Proofs.YtngealmhgkoaiaaGreat
/- Walks: hash.fill. -/
namespace Go.Proofs.YtngealmhgkoaiaaGreat
open Go.RowKit WalkM ShaM WireM
set_option linter.unusedVariables false
/-- the slice lies elsewhere -/
def apartV (u : Value) (g : Nat) : Prop := ∀ a m c, u = .slice (some a) m c → a.block ≠ g
theorem apart_own {w : World} {B g : Nat} {e : TypeId} {v : Value} {xs : List Value} (h : Own w B e v xs) (hg : g < B) : apartV v g := by
 intro a m c e
 rcases h.2 with ⟨e2, _⟩ | ⟨g', cp, cur, e2, hb, _⟩
 ·rw [e2] at e; cases e
 ·rw [e2] at e
  simp only [Value.slice.injEq, Option.some.injEq] at e
  rw [← e.1]
  show g' ≠ g
  omega
/-- a variable that holds rows of bytes; of some it is known what they read -/
def AllR (w : World) (g n : Nat) (F : Nat → Option (List Nat)) : Prop :=
 ∃ cs : Array Value, Blk w g 25 cs ∧ cs.size = n ∧ ∀ y, y < n → ∃ u, cs[y]? = some u ∧ ∀ L, F y = some L → Rd w u (bvs L) ∧ apartV u g
theorem AllR.lt {w : World} {g n : Nat} {F : Nat → Option (List Nat)} (h : AllR w g n F) : g < w.heap.size := by
 obtain ⟨cs, hb, _⟩ := h; exact hb.lt
theorem AllR.below {w w' : World} {g n : Nat} {F : Nat → Option (List Nat)} (h : AllR w g n F) (hb : Below w.heap.size w w') : AllR w' g n F := by
 obtain ⟨cs, h1, h2, h3⟩ := h
 refine ⟨cs, h1.below hb h1.lt, h2, fun y hy => ?_⟩
 obtain ⟨u, k1, k2⟩ := h3 y hy
 exact ⟨u, k1, fun L hL => ⟨(k2 L hL).1.below hb (Nat.le_refl _), (k2 L hL).2⟩⟩
theorem AllR.alloc {w : World} {g n : Nat} {F : Nat → Option (List Nat)} (h : AllR w g n F) (o : Obj) : AllR (w.alloc o) g n F := h.below ((Below.refl _ _).alloc (Nat.le_refl _) o)
theorem AllR.at {w : World} {g n : Nat} {F : Nat → Option (List Nat)} (h : AllR w g n F) {x : Nat} (hx : x < n) : ∃ u, w.cell? ⟨g, x, none⟩ = some u ∧ w.frozen? ⟨g, x, none⟩ = false := by
 obtain ⟨cs, h1, h2, h3⟩ := h
 obtain ⟨u, k1, _⟩ := h3 x hx
 exact ⟨u, by rw [h1.cell]; exact k1, h1.frozen x⟩
theorem AllR.set {w : World} {g n : Nat} {F : Nat → Option (List Nat)} (h : AllR w g n F) {x : Nat} (hx : x < n) (u : Value) (L : List Nat) (hr : Rd w u (bvs L)) (ha : apartV u g) : AllR (w.setCell ⟨g, x, none⟩ u) g n (fun y => if y = x then some L else F y) := by
 obtain ⟨cs, h1, h2, h3⟩ := h
 refine ⟨_, h1.set x u, by rw [Array.size_setIfInBounds]; exact h2, fun y hy => ?_⟩
 by_cases e : y = x
 ·subst e
  refine ⟨u, by rw [Array.getElem?_setIfInBounds, if_pos rfl, if_pos (by omega)], fun L' hL' => ?_⟩
  have hL' : (if y = y then some L else F y) = some L' := hL'
  rw [if_pos rfl] at hL'
  cases hL'
  exact ⟨hr.onlyG (OnlyG.setCell y u) ha, ha⟩
 ·obtain ⟨u', k1, k2⟩ := h3 y hy
  refine ⟨u', by rw [Array.getElem?_setIfInBounds, if_neg (fun h => e h.symm)]; exact k1, fun L' hL' => ?_⟩
  have hL' : (if y = x then some L else F y) = some L' := hL'
  rw [if_neg e] at hL'
  exact ⟨(k2 L' hL').1.onlyG (OnlyG.setCell x u) (k2 L' hL').2, (k2 L' hL').2⟩
/-- what is known behind the filling of all beneath a node -/
def fillF (T : Nat → NodeD) (F : Nat → Option (List Nat)) (k x : Nat) (y : Nat) : Option (List Nat) := if x + 1 ≤ y + 2 ^ k ∧ y < x + 2 ^ k then some (hashN T (lev y) y) else F y
theorem fillF_zero (T : Nat → NodeD) (F : Nat → Option (List Nat)) {x : Nat} (hl : lev x = 0) : fillF T F 0 x = fun y => if y = x then some (hashN T 0 x) else F y := by
 funext y
 unfold fillF
 rw [show (2 : Nat) ^ 0 = 1 from rfl]
 by_cases h : y = x
 ·rw [if_pos (by omega), if_pos h, h, hl]
 ·rw [if_neg (by omega), if_neg h]
theorem fillF_succ (T : Nat → NodeD) (F : Nat → Option (List Nat)) {x k : Nat} (hl : lev x = k + 1) (hx : 2 ^ k ≤ x) : fillF T F (k + 1) x = fun y => if y = x then some (hashN T (k + 1) x) else fillF T (fillF T F k (x - 2 ^ k)) k (x + 2 ^ k) y := by
 funext y
 have e : 2 ^ (k + 1) = 2 * 2 ^ k := by rw [Nat.pow_succ]; omega
 have hp : 0 < 2 ^ k := Nat.pos_of_ne_zero (by simp)
 by_cases h : y = x
 ·rw [if_pos h]
  unfold fillF
  rw [if_pos (by omega), h, hl]
 ·rw [if_neg h]
  unfold fillF
  rw [e]
  by_cases h2 : x + 2 ^ k + 1 ≤ y + 2 ^ k ∧ y < x + 2 ^ k + 2 ^ k
  ·rw [if_pos h2, if_pos (by omega)]
  ·rw [if_neg h2]
   by_cases h3 : x - 2 ^ k + 1 ≤ y + 2 ^ k ∧ y < x - 2 ^ k + 2 ^ k
   ·rw [if_pos h3, if_pos (by omega)]
   ·rw [if_neg h3, if_neg (by omega)]
/-- a tree apart from a block -/
def TreeG (w : World) (g : Nat) (v : Value) (t : List NodeD) : Prop :=
 ∃ a cap, v = .slice a t.length cap ∧ t.length ≤ cap ∧ cap ≤ maxLen ∧ ∀ i, i < t.length → ∃ b off c, a = some ⟨b, off, none⟩ ∧ b < w.heap.size ∧ b ≠ g ∧ c.size = 10 ∧ w.rangeAt b (off + i * 10) c.toList ∧ ∀ W, OnlyG g w W → NodeC W (nd t i) c
theorem rangeAt_onlyG {w w' : World} {g b o : Nat} {cs : List Value} (h : w.rangeAt b o cs) (hb : OnlyG g w w') (hl : b < w.heap.size) (hne : b ≠ g) : w'.rangeAt b o cs := by
 intro j u hu
 have := h j u hu
 rw [World.cell?_of_block (hb.2.2 b hl hne)]
 exact this
theorem TreeG.onlyG {w w' : World} {g : Nat} {v : Value} {t : List NodeD} (h : TreeG w g v t) (hb : OnlyG g w w') : TreeG w' g v t := by
 obtain ⟨a, cap, e, h1, h2, h3⟩ := h
 refine ⟨a, cap, e, h1, h2, fun i hi => ?_⟩
 obtain ⟨b, off, c, k1, k2, k3, k4, k5, k6⟩ := h3 i hi
 exact ⟨b, off, c, k1, Nat.lt_of_lt_of_le k2 hb.2.1, k3, k4, rangeAt_onlyG k5 hb k2 k3, fun W hW => k6 W (hb.trans hW)⟩
theorem TreeG.sl {w : World} {g : Nat} {v : Value} {t : List NodeD} (h : TreeG w g v t) : ∃ a c, v = .slice a t.length c ∧ t.length ≤ c ∧ c ≤ 9223372036854775807 := by
 obtain ⟨a, cap, e, h1, h2, _⟩ := h
 unfold maxLen at h2
 exact ⟨a, cap, e, h1, h2⟩
theorem TreeG.node {w : World} {g : Nat} {a : Option Addr} {n c : Nat} {t : List NodeD} (h : TreeG w g (.slice a n c) t) {i : Nat} (hi : i < n) : ∃ b off cs, a = some ⟨b, off, none⟩ ∧ b < w.heap.size ∧ b ≠ g ∧ cs.size = 10 ∧ w.rangeAt b (off + i * 10) cs.toList ∧ ∀ W, OnlyG g w W → NodeC W (nd t i) cs := by
 obtain ⟨a', cap, e, h1, h2, h3⟩ := h
 simp only [Value.slice.injEq] at e
 obtain ⟨rfl, rfl, rfl⟩ := e
 exact h3 i hi
def FillP (t : List NodeD) (k : Nat) : Prop := ∀ (x g : Nat) (v : Value) (w : World) (F : Nat → Option (List Nat)), TreeG w g v t → AllR w g t.length F → IsLev x k → x + 2 ^ k ≤ t.length →
 Calls Tryz.prog 217 #[v, .int .i64 (x : Nat), .slice (some ⟨g, 0, none⟩) t.length t.length] w fun e w' => ∃ v', e = .returned v' ∧ Rd w' v' (bvs (hashN (nd t) k x)) ∧ apartV v' g ∧ AllR w' g t.length (fillF (nd t) F k x) ∧ OnlyG g w w'
set_option maxRecDepth 100000 in
set_option maxHeartbeats 4000000 in
theorem fill_zero (t : List NodeD) (hs : smallT t = true) (hok : TreeOk t) (hp : placedB t = true) : FillP t 0 := by
 intro x g v w F h hall hlev hx
 have hev := lev_zero hlev
 have hx : x < t.length := by have : (2 : Nat) ^ 0 = 1 := rfl; omega
 have hlen := smallT_len hs
 have hoo : OnlyG g w w := OnlyG.of_below (Below.refl _ _) (Nat.le_of_lt hall.lt)
 obtain ⟨a, c, rfl, hc, hc2⟩ := h.sl
 obtain ⟨b, off, cs, rfl, hbl, hbg, hcz, hra, hncs⟩ := h.node hx
 have hnc := hncs w hoo
 have hlx : lev x = 0 := lev_eq (by omega) hlev
 have hpl := placed_at hp hx
 have hk2 : (nd t x).kind ≠ 2 := by have := hpl.1; rwa [otherK_even hev] at this
 have LT := leafText_any ((x / 2 : Nat) : Int) (nd t x) cs w hnc (hok.nd x) (smallT_nd hs x)
 have hlt : ltF ((x / 2 : Nat) : Int) (nd t x) = (([1] ++ beN 4 (x / 2)) ++ nodeB (nd t x), 0) := by
  rw [ltF, if_neg (by omega), if_neg (by rw [hpl.2]; simp [hk2]), Int.toNat_natCast]
 unfold TextP at LT
 rw [hlt] at LT
 have htn := textN_zero (nd t) x
 have HHE := hashN_eq (nd t) 0 x
 have htl := textN_len (t := nd t) (fun y => smallT_nd hs y) 0 x
 have htb := textN_lt' (nd t) (fun y => hok.nd y) (fun y => smallT_nd hs y) 0 x
 rw [← htn] at LT
 obtain ⟨n, hn⟩ : ∃ n, n = t.length := ⟨_, rfl⟩
 rw [← hn] at hx hc hlen hall ⊢
 obtain ⟨m, hm0⟩ : ∃ m, m = x / 2 := ⟨_, rfl⟩
 rw [← hm0] at LT
 have hq : (x : Int) / 2 = (m : Int) := by omega
 have hm : (x : Int) % 2 = 0 := by omega
 obtain ⟨TX, hTX⟩ : ∃ T, T = textN (nd t) 0 x := ⟨_, rfl⟩
 rw [← hTX] at LT HHE htl htb
 have HTXE := Lib.hid HHE
 have HLT := Lib.hid LT
 have HRA := Lib.hid hra
 have HSZ := Lib.hid hnc.size
 have HAL := Lib.hid hall
 have HTL := Lib.hid (show TX.length ≤ 1000000 by omega)
 have HTB := Lib.hid htb
 have HFE := Lib.hid (fillF_zero (nd t) F hlx)
 have hxn := hx
 clear hTX htn hm0 hn hlt hpl hk2 h hncs hoo hcz hbg hnc hra LT HHE htl htb hs hok hp hlev hlx hev hall
 go_enter Tryz.func217, Tryz.ntmps217
 go_wp2_with (refine wpList_load_mid rfl 54 (.tmp 17) rfl b (off + x * 10) rfl cs.toList _ HRA.out Tryz.underlying54 rfl (by rw [Array.length_toList, HSZ.out]; exact node_info) ?_)
 refine (HLT.out).mono ?_
 rintro e w1 ⟨hb1, v1, rfl, hown1⟩
 obtain ⟨p1, p2, p3, rfl⟩ := slOf hown1
 have HR1 := Lib.hid hown1.rd
 have HA1 := Lib.hid (HAL.out.below hb1)
 have HO1 := Lib.hid (OnlyG.of_below hb1 (Nat.le_of_lt HAL.out.lt))
 clear hb1 hown1
 go_wp2_with fail
 have HRT0 := Lib.hid (show Rd (w1.alloc (.cells #[.slice p1 p2 p3] 25)) (.slice p1 p2 p3) (bvs TX) from (HR1.out).alloc _)
 have HSO := Lib.hid (shaof_any w1.heap.size (.slice p1 p2 p3) TX (w1.alloc (.cells #[.slice p1 p2 p3] 25)) (cell_new rfl) (by simp) HRT0.out HTB.out HTL.out)
 have HA0 := Lib.hid ((HA1.out).alloc (.cells #[.slice p1 p2 p3] 25))
 have hg0 := (HA1.out).lt
 have HO0 := Lib.hid ((HO1.out).trans (OnlyG.of_below ((Below.refl _ _).alloc (Nat.le_refl _) (.cells #[.slice p1 p2 p3] 25)) (Nat.le_of_lt hg0)))
 go_wp2_with fail
 refine (HSO.out).mono ?_
 rintro e w2 ⟨ob, rfl, hob, hob2, hrd2, hb2⟩
 have hA2 := HA0.out.below hb2
 have HO2 := Lib.hid (HO0.out.trans (OnlyG.of_below hb2 (by simp; omega)))
 have HRD2 := Lib.hid hrd2
 have hap : apartV (.slice (some ⟨ob, 0, none⟩) 32 32) g := by
  intro a m c e
  simp only [Value.slice.injEq, Option.some.injEq] at e
  rw [← e.1]
  show ob ≠ g
  have : w1.heap.size + 1 ≤ ob := by simpa using hob
  omega
 have HAP := Lib.hid hap
 obtain ⟨y0, hc0, hf0⟩ := hA2.at hxn
 have HA2 := Lib.hid hA2
 clear hb2 hrd2 hA2 hob hob2 hg0 hap
 go_wp2_with fail
 go_ret
 have hset := HA2.out.set hxn _ _ HRD2.out HAP.out
 refine ⟨_, rfl, ?_, HAP.out, ?_, HO2.out.trans (OnlyG.setCell x _)⟩
 ·rw [HTXE.out]
  exact HRD2.out.onlyG (OnlyG.setCell x _) HAP.out
 ·rw [HFE.out, HTXE.out]
  exact hset
set_option maxRecDepth 100000 in
set_option maxHeartbeats 4000000 in
theorem fill_succ (t : List NodeD) (hs : smallT t = true) (hok : TreeOk t) (hp : placedB t = true) (k : Nat) (IH : FillP t k) : FillP t (k + 1) := by
 intro x g v w F h hall hlev hx
 have hod := lev_succ hlev
 have hlen := smallT_len hs
 have hpw : 2 ^ (k + 1) = 2 * 2 ^ k := by rw [Nat.pow_succ]; omega
 have hp1 : 0 < 2 ^ k := Nat.pos_of_ne_zero (by simp)
 have hxt : x < t.length := by omega
 obtain ⟨hkl, hkr, hl1, hl2, hkx⟩ := kids_lev (by omega) hlev
 have HLF := Lib.hid (fun (W : World) => wleft_any (x : Int) W)
 have HRT := Lib.hid (fun (W : World) => wright_any (x : Int) W)
 rw [hkl] at HLF
 rw [hkr] at HRT
 have hlx : lev x = k + 1 := lev_eq (by omega) hlev
 have HF1 := Lib.hid (IH (x - 2 ^ k) g v w F h hall hl1 (by omega))
 obtain ⟨F1, hF1⟩ : ∃ F1, F1 = fillF (nd t) F k (x - 2 ^ k) := ⟨_, rfl⟩
 have HF2 := fun (W : World) (hw : OnlyG g w W) (ha : AllR W g t.length F1) => IH (x + 2 ^ k) g v W F1 (h.onlyG hw) ha hl2 (by omega)
 obtain ⟨F2, hF2⟩ : ∃ F2, F2 = fillF (nd t) F1 k (x + 2 ^ k) := ⟨_, rfl⟩
 have HFE := Lib.hid (show fillF (nd t) F (k + 1) x = fun y => if y = x then some (hashN (nd t) (k + 1) x) else F2 y by rw [fillF_succ (nd t) F hlx hkx, hF2, hF1])
 rw [← hF1] at HF1
 rw [← hF2] at HF2
 have hpl := placed_at hp hxt
 have hk1 : (nd t x).kind ≠ 1 := by have := hpl.1; rwa [otherK_odd hod] at this
 have htn := textN_succ (nd t) k x
 have HHE := hashN_eq (nd t) (k + 1) x
 have htl := textN_len (t := nd t) (fun y => smallT_nd hs y) (k + 1) x
 have htb := textN_lt' (nd t) (fun y => hok.nd y) (fun y => smallT_nd hs y) (k + 1) x
 have hl32 := hashN_len (nd t) k (x - 2 ^ k)
 have hr32 := hashN_len (nd t) k (x + 2 ^ k)
 obtain ⟨TX, hTX⟩ : ∃ T, T = textN (nd t) (k + 1) x := ⟨_, rfl⟩
 rw [← hTX] at htn HHE htl htb
 obtain ⟨H1, hH1⟩ : ∃ H, H = hashN (nd t) k (x - 2 ^ k) := ⟨_, rfl⟩
 obtain ⟨H2, hH2⟩ : ∃ H, H = hashN (nd t) k (x + 2 ^ k) := ⟨_, rfl⟩
 rw [← hH1, ← hH2] at htn
 rw [← hH1] at HF1 hl32
 rw [← hH2] at HF2 hr32
 have PT := fun (cs : Array Value) (W : World) (hw : NodeC W (nd t x) cs) (vl vr : Value) (h1 : Rd W vl (bvs H1)) (h2 : Rd W vr (bvs H2)) => parentText_any (nd t x) cs vl vr H1 H2 W hw (hok.nd x) (smallT_nd hs x) h1 h2
 have hpt : ptF (nd t x) H1 H2 = (TX, 0) := by
  rw [ptF, if_neg (by rw [hpl.2]; simp [hk1]), if_neg (by simp [hl32, hr32]), htn, List.append_assoc _ (vecB H1)]
 unfold TextP at PT
 simp only [hpt] at PT
 obtain ⟨a, c, rfl, hc, hc2⟩ := h.sl
 obtain ⟨b, off, cs, rfl, hbl, hbg0, hcz, hra, hncs⟩ := h.node hxt
 obtain ⟨n, hn⟩ : ∃ n, n = t.length := ⟨_, rfl⟩
 rw [← hn] at hxt hc hlen hall HF1 HF2 ⊢
 obtain ⟨xl, hxl⟩ : ∃ y, y = x - 2 ^ k := ⟨_, rfl⟩
 obtain ⟨xr, hxr⟩ : ∃ y, y = x + 2 ^ k := ⟨_, rfl⟩
 rw [← hxl] at HLF HF1
 rw [← hxr] at HRT HF2
 have hm : (x : Int) % 2 = 1 := by omega
 have HTXE := Lib.hid HHE
 have HPT0 := Lib.hid PT
 have HFF := Lib.hid HF2
 have HTL := Lib.hid (show TX.length ≤ 1000000 by omega)
 have HTB := Lib.hid htb
 have hxn := hxt
 have HNC0 := Lib.hid hncs
 have HRA0 := Lib.hid hra
 have HSZ := Lib.hid hcz
 clear hF1 hF2 hTX htn hn hpt hpl hk1 h hncs hcz hra PT HHE htl htb hs hok hp hlev hlx hod hH1 hH2 hxl hxr hkl hkr hl1 hl2 hkx hl32 hr32 IH HF2 hall hpw hp1 hx
 go_enter Tryz.func217, Tryz.ntmps217
 go_wp2_with fail
 refine (HLF.out w).mono ?_
 rintro e w' ⟨rfl, rfl⟩
 go_wp2_with fail
 refine (HF1.out).mono ?_
 rintro e wz ⟨v1, rfl, hr1, ha1, hall1, ho1⟩
 obtain ⟨q1, q2, q3, rfl⟩ : ∃ a b c, v1 = .slice a b c := by obtain ⟨a, c, e, _⟩ := hr1; exact ⟨_, _, _, e⟩
 have hgz : g < wz.heap.size := hall1.lt
 have HRA := Lib.hid (rangeAt_onlyG HRA0.out ho1 hbl hbg0)
 have hblz : b < wz.heap.size := Nat.lt_of_lt_of_le hbl ho1.2.1
 obtain ⟨CS, hCS⟩ : ∃ C, C = cs := ⟨_, rfl⟩
 rw [← hCS] at HRA HSZ
 have HPT := Lib.hid (fun (W : World) (hw : OnlyG g wz W) (v : Value) (hv : Rd W v (bvs H2)) => HPT0.out CS W (by rw [hCS]; exact HNC0.out W (ho1.trans hw)) (.slice q1 q2 q3) v (hr1.onlyG hw ha1) hv)
 have HFR := Lib.hid (fun (W : World) (hw : Below wz.heap.size wz W) => HFF.out W (ho1.trans (OnlyG.of_below hw (Nat.le_of_lt hgz))) (hall1.below hw))
 have hbg : b ≠ g := hbg0
 have HO1 := Lib.hid ho1
 clear hr1 ha1 hall1 ho1 hCS HPT0 HFF HRA0 HNC0 HF1
 go_wp2_with fail
 refine wp_region_rel [fun v _ => v = .slice (some ⟨b, off, none⟩) n c, fun v _ => v = .int .i64 (x : Nat), fun v _ => v = .pointer (some ⟨b, off + x * 10, none⟩), fun v _ => v = .agg CS, fun v _ => v = .slice q1 q2 q3, fun v _ => v = .slice (some ⟨b, off, none⟩) n c, fun v _ => v = .int .i64 (x : Nat), fun v _ => v = .int .i64 (xr : Nat), fun v _ => v = .slice (some ⟨g, 0, none⟩) n n, fun v w' => Rd w' v (bvs H2) ∧ apartV v g ∧ AllR w' g n F2, fun v w' => ∃ u, v = .tuple #[u, .int .u8 0] ∧ Rd w' u (bvs TX) ∧ apartV u g, fun v w' => ∃ u, v = .tuple #[u, .int .u8 0] ∧ Rd w' u (bvs TX) ∧ apartV u g, fun v w' => Rd w' v (bvs TX) ∧ apartV v g, fun v _ => v = .int .u8 0, fun v w' => Rd w' v (bvs TX) ∧ apartV v g]
  [true, true, true, true, true, true, true, true, true, true, true, true, true, true, true] (fun X => OnlyG g wz X) (fun X Y => OnlyG g X Y) (some 9) (by kernel_rfl) ?_ ((OnlyG.of_below (Below.refl _ _) (Nat.le_of_lt hgz)).drewN 1) (fun X Y hx h => OnlyG.of_below h (Nat.le_trans (Nat.le_of_lt hgz) hx.2.1)) (fun X Y hx hs => hx.trans hs) (by kernel_rfl) (by kernel_rfl) ?_ ?_
 ·exact keepsR_s (fun _ _ _ h _ _ => h) (keepsR_s (fun _ _ _ h _ _ => h) (keepsR_s (fun _ _ _ h _ _ => h) (keepsR_s (fun _ _ _ h _ _ => h) (keepsR_s (fun _ _ _ h _ _ => h) (keepsR_s (fun _ _ _ h _ _ => h) (keepsR_s (fun _ _ _ h _ _ => h) (keepsR_s (fun _ _ _ h _ _ => h) (keepsR_s (fun _ _ _ h _ _ => h) (keepsR_q (fun v x y h _ hs => ⟨h.1.below hs (Nat.le_refl _), h.2.1, h.2.2.below hs⟩) (keepsR_n (fun v x y h hi hs => let ⟨u, e, h2⟩ := h; ⟨u, e, (fun v x y h _ hs => ⟨h.1.onlyG hs h.2, h.2⟩) u x y h2 hi hs⟩) (keepsR_n (fun v x y h hi hs => let ⟨u, e, h2⟩ := h; ⟨u, e, (fun v x y h _ hs => ⟨h.1.onlyG hs h.2, h.2⟩) u x y h2 hi hs⟩) (keepsR_n (fun v x y h _ hs => ⟨h.1.onlyG hs h.2, h.2⟩) (keepsR_n (fun _ _ _ h _ _ => h) (keepsR_n (fun v x y h _ hs => ⟨h.1.onlyG hs h.2, h.2⟩) (keepsR_nil)))))))))))))))
 ·refine .cons (owed7_go ?_) (.cons (owed7_go ?_) (.cons (owed7_go ?_) (.cons (owed7_go ?_) (.cons (owed7_go ?_) (.cons (owed7_go ?_) (.cons (owed7_go ?_) (.cons (owed7_go ?_) (.cons (owed7_go ?_) (.cons (owed7_go ?_) (.cons (owed7_go ?_) (.cons (owed7_go ?_) (.cons (owed7_go ?_) (.cons (owed7_go ?_) (.cons (owed7_go ?_) (.nil)))))))))))))))
  ·intro a wx hbx hq ho hf
   have hbx : OnlyG g wz wx := hbx
   clear hq
   refine ⟨rfl, ?_⟩
   intro K hK
   have e0 : a.tmps[0]?.getD undef = .slice (some ⟨b, off, none⟩) n c := ho 0 (by kernel_rfl)
   go_simp
   exact hK _ _ rfl (stepR_no rfl (Below.refl _ _))
  ·intro a wx hbx hq ho hf
   have hbx : OnlyG g wz wx := hbx
   clear hq
   refine ⟨rfl, ?_⟩
   intro K hK
   have e0 : a.tmps[1]?.getD undef = .int .i64 (x : Nat) := ho 1 (by kernel_rfl)
   go_simp
   exact hK _ _ rfl (stepR_no rfl (Below.refl _ _))
  ·intro a wx hbx hq ho hf
   have hbx : OnlyG g wz wx := hbx
   clear hq
   refine ⟨rfl, ?_⟩
   intro K hK
   have e0 : a.tmps[28]?.getD undef = .slice (some ⟨b, off, none⟩) n c := hf.1
   have e1 : a.tmps[29]?.getD undef = .int .i64 (x : Nat) := hf.2.1
   go_simp
   exact hK _ _ rfl (stepR_no rfl (Below.refl _ _))
  ·intro a wx hbx hq ho hf
   have hbx : OnlyG g wz wx := hbx
   clear hq
   refine ⟨rfl, ?_⟩
   intro K hK
   have e0 : a.tmps[30]?.getD undef = .pointer (some ⟨b, off + x * 10, none⟩) := hf.1
   exact wp_load_mid 54 (.tmp 30) rfl b (off + x * 10) (evs e0) _ _ (rangeAt_onlyG HRA.out hbx hblz hbg) Tryz.underlying54 rfl (by rw [Array.length_toList, HSZ.out]; exact node_info) (hK _ _ rfl (stepR_no rfl (Below.refl _ _)))
  ·intro a wx hbx hq ho hf
   have hbx : OnlyG g wz wx := hbx
   clear hq
   refine ⟨rfl, ?_⟩
   intro K hK
   have e0 : a.tmps[8]?.getD undef = .slice q1 q2 q3 := ho 8 (by kernel_rfl)
   go_simp
   exact hK _ _ rfl (stepR_no rfl (Below.refl _ _))
  ·intro a wx hbx hq ho hf
   have hbx : OnlyG g wz wx := hbx
   have hbq : Below wz.heap.size wz wx := hq (by kernel_rfl)
   clear hq
   refine ⟨rfl, ?_⟩
   intro K hK
   have e0 : a.tmps[0]?.getD undef = .slice (some ⟨b, off, none⟩) n c := ho 0 (by kernel_rfl)
   go_simp
   exact hK _ _ rfl (stepR_no rfl (Below.refl _ _))
  ·intro a wx hbx hq ho hf
   have hbx : OnlyG g wz wx := hbx
   clear hq
   refine ⟨rfl, ?_⟩
   intro K hK
   have e0 : a.tmps[1]?.getD undef = .int .i64 (x : Nat) := ho 1 (by kernel_rfl)
   go_simp
   exact hK _ _ rfl (stepR_no rfl (Below.refl _ _))
  ·intro a wx hbx hq ho hf
   have hbx : OnlyG g wz wx := hbx
   have hbq : Below wz.heap.size wz wx := hq (by kernel_rfl)
   clear hq
   refine ⟨rfl, ?_⟩
   intro K hK
   have e0 : a.tmps[34]?.getD undef = .int .i64 (x : Nat) := hf.1
   go_simp
   refine (HRT.out wx).mono ?_
   rintro e w2 ⟨rfl, rfl⟩
   exact hK _ _ rfl (stepR_no rfl (Below.refl _ _))
  ·intro a wx hbx hq ho hf
   have hbx : OnlyG g wz wx := hbx
   have hbq : Below wz.heap.size wz wx := hq (by kernel_rfl)
   clear hq
   refine ⟨rfl, ?_⟩
   intro K hK
   have e0 : a.tmps[2]?.getD undef = .slice (some ⟨g, 0, none⟩) n n := ho 2 (by kernel_rfl)
   go_simp
   exact hK _ _ rfl (stepR_no rfl (Below.refl _ _))
  ·intro a wx hbx hq ho hf
   have hbx : OnlyG g wz wx := hbx
   have hbq : Below wz.heap.size wz wx := hq (by kernel_rfl)
   clear hq
   refine ⟨rfl, ?_⟩
   intro K hK
   have e0 : a.tmps[33]?.getD undef = .slice (some ⟨b, off, none⟩) n c := hf.1
   have e1 : a.tmps[35]?.getD undef = .int .i64 (xr : Nat) := hf.2.1
   have e2 : a.tmps[36]?.getD undef = .slice (some ⟨g, 0, none⟩) n n := hf.2.2.1
   go_simp
   refine (HFR.out wx hbq).mono ?_
   rintro e w2 ⟨v9, rfl, hr9, ha9, hall9, ho9⟩
   exact hK _ _ ⟨hr9, ha9, hall9⟩ (stepR_yes rfl ho9)
  ·intro a wx hbx hq ho hf
   have hbx : OnlyG g wz wx := hbx
   clear hq
   refine ⟨rfl, ?_⟩
   intro K hK
   have e0 : a.tmps[31]?.getD undef = .agg CS := hf.1
   have e1 : a.tmps[32]?.getD undef = .slice q1 q2 q3 := hf.2.1
   have o2 : Rd wx (a.tmps[37]?.getD undef) (bvs H2) ∧ apartV (a.tmps[37]?.getD undef) g ∧ AllR wx g n F2 := hf.2.2.1
   obtain ⟨v2, hv2⟩ : ∃ v, v = a.tmps[37]?.getD undef := ⟨_, rfl⟩
   rw [← hv2] at o2
   have e2 := hv2.symm
   clear hv2
   go_simp
   refine (HPT.out wx hbx v2 o2.1).mono ?_
   rintro e w2 ⟨hb2, v9, rfl, hown9⟩
   exact hK _ _ ⟨_, rfl, hown9.rd, apart_own hown9 (Nat.lt_of_lt_of_le hgz hbx.2.1)⟩ (stepR_no rfl hb2)
  ·intro a wx hbx hq ho hf
   have hbx : OnlyG g wz wx := hbx
   clear hq
   refine ⟨rfl, ?_⟩
   intro K hK
   have o0 : ∃ u, (a.tmps[38]?.getD undef) = .tuple #[u, .int .u8 0] ∧ Rd wx u (bvs TX) ∧ apartV u g := hf.1
   obtain ⟨v0, hv0⟩ : ∃ v, v = a.tmps[38]?.getD undef := ⟨_, rfl⟩
   rw [← hv0] at o0
   have e0 := hv0.symm
   clear hv0
   go_simp
   exact hK _ _ o0 (stepR_no rfl (Below.refl _ _))
  ·intro a wx hbx hq ho hf
   have hbx : OnlyG g wz wx := hbx
   clear hq
   refine ⟨rfl, ?_⟩
   intro K hK
   have o0 : ∃ u, (a.tmps[27]?.getD undef) = .tuple #[u, .int .u8 0] ∧ Rd wx u (bvs TX) ∧ apartV u g := hf.1
   obtain ⟨v0, hv0⟩ : ∃ v, v = a.tmps[27]?.getD undef := ⟨_, rfl⟩
   rw [← hv0] at o0
   have e0 := hv0.symm
   clear hv0
   obtain ⟨u, rfl, o1⟩ := o0
   go_simp
   exact hK _ _ o1 (stepR_no rfl (Below.refl _ _))
  ·intro a wx hbx hq ho hf
   have hbx : OnlyG g wz wx := hbx
   clear hq
   refine ⟨rfl, ?_⟩
   intro K hK
   have o0 : ∃ u, (a.tmps[27]?.getD undef) = .tuple #[u, .int .u8 0] ∧ Rd wx u (bvs TX) ∧ apartV u g := hf.1
   obtain ⟨v0, hv0⟩ : ∃ v, v = a.tmps[27]?.getD undef := ⟨_, rfl⟩
   rw [← hv0] at o0
   have e0 := hv0.symm
   clear hv0
   obtain ⟨u, rfl, o1⟩ := o0
   go_simp
   exact hK _ _ rfl (stepR_no rfl (Below.refl _ _))
  ·intro a wx hbx hq ho hf
   have hbx : OnlyG g wz wx := hbx
   clear hq
   refine ⟨rfl, ?_⟩
   intro K hK
   have o0 : Rd wx (a.tmps[39]?.getD undef) (bvs TX) ∧ apartV (a.tmps[39]?.getD undef) g := hf.1
   obtain ⟨v0, hv0⟩ : ∃ v, v = a.tmps[39]?.getD undef := ⟨_, rfl⟩
   rw [← hv0] at o0
   have e0 := hv0.symm
   clear hv0
   go_simp
   exact hK _ _ o0 (stepR_no rfl (Below.refl _ _))
 ·rintro f w9 hb9 hfin
  have hb9 : OnlyG g wz w9 := hb9
  have S7 : Rd w9 (f 7) (bvs TX) ∧ apartV (f 7) g := hfin.2.2.2.2.2.2.2.2.2.2.2.2.2.2.1
  have S37 : Rd w9 (f 37) (bvs H2) ∧ apartV (f 37) g ∧ AllR w9 g n F2 := hfin.2.2.2.2.2.2.2.2.2.1
  clear hfin
  simp only [frameOf, dstsOf, zipF, List.filterMap_cons, List.filterMap_nil, List.contains_cons, List.contains_nil, Nat.reduceBEq, Nat.reduceAdd, Bool.or_false, Bool.or_true, cond_true, cond_false]
  obtain ⟨u7, hu7⟩ : ∃ u, u = f 7 := ⟨_, rfl⟩
  rw [← hu7] at S7 ⊢
  clear hu7
  obtain ⟨u37, hu37⟩ : ∃ u, u = f 37 := ⟨_, rfl⟩
  rw [← hu37] at S37 ⊢
  clear hu37
  have hq7 : ∃ a b c, u7 = .slice a b c := by obtain ⟨a, c, e, _⟩ := S7.1; exact ⟨_, _, _, e⟩
  obtain ⟨p1, p2, p3, rfl⟩ := hq7
  have HR1 := Lib.hid S7.1
  have HA1 := Lib.hid S37.2.2
  have HO9 := Lib.hid (HO1.out.trans hb9)
  clear S7 S37 hb9
  go_wp2_with fail
  have HRT0 := Lib.hid (show Rd (w9.alloc (.cells #[.slice p1 p2 p3] 25)) (.slice p1 p2 p3) (bvs TX) from (HR1.out).alloc _)
  have HSO := Lib.hid (shaof_any w9.heap.size (.slice p1 p2 p3) TX (w9.alloc (.cells #[.slice p1 p2 p3] 25)) (cell_new rfl) (by simp) HRT0.out HTB.out HTL.out)
  have HA0 := Lib.hid ((HA1.out).alloc (.cells #[.slice p1 p2 p3] 25))
  have hg0 := (HA1.out).lt
  have HO0 := Lib.hid ((HO9.out).trans (OnlyG.of_below ((Below.refl _ _).alloc (Nat.le_refl _) (.cells #[.slice p1 p2 p3] 25)) (Nat.le_of_lt hg0)))
  go_wp2_with fail
  refine (HSO.out).mono ?_
  rintro e w2 ⟨ob, rfl, hob, hob2, hrd2, hb2⟩
  have hA2 := HA0.out.below hb2
  have HO2 := Lib.hid (HO0.out.trans (OnlyG.of_below hb2 (by simp; omega)))
  have HRD2 := Lib.hid hrd2
  have hap : apartV (.slice (some ⟨ob, 0, none⟩) 32 32) g := by
   intro a m c e
   simp only [Value.slice.injEq, Option.some.injEq] at e
   rw [← e.1]
   show ob ≠ g
   have : w9.heap.size + 1 ≤ ob := by simpa using hob
   omega
  have HAP := Lib.hid hap
  obtain ⟨y0, hc0, hf0⟩ := hA2.at hxn
  have HA2 := Lib.hid hA2
  clear hb2 hrd2 hA2 hob hob2 hg0 hap
  go_wp2_with fail
  go_ret
  have hset := HA2.out.set hxn _ _ HRD2.out HAP.out
  refine ⟨_, rfl, ?_, HAP.out, ?_, HO2.out.trans (OnlyG.setCell x _)⟩
  ·rw [HTXE.out]
   exact HRD2.out.onlyG (OnlyG.setCell x _) HAP.out
  ·rw [HFE.out, HTXE.out]
   exact hset
end Go.Proofs.YtngealmhgkoaiaaGreat
