/- Walks: plan.Far. -/
import Derived.Test.YtbjfacfphgnhpaaPlanFarIn
namespace Go.Proofs.Ytbjfacfphgnhpaa
open Go.RowKit WalkM FloatM
set_option linter.unusedVariables false
/-- the farthest of the first r of a list, and how far it is -/
def farAt (x n : Int) (L : List Int) : Nat → Int × Int
  | 0 => (0, -1)
  | r + 1 => if (farAt x n L r).2 < gapZ x (L.getD r 0) n then (L.getD r 0, gapZ x (L.getD r 0) n) else farAt x n L r
def farOk (x n : Int) (L : List Int) : Bool := isOf x n && !(L.length == 0) && allOf L n
def farZ (x n : Int) (L : List Int) : Int := if farOk x n L = true then (farAt x n L L.length).1 else 0
def FarP (x n : Int) (L : List Int) (w : World) (e : Ending) (w' : World) : Prop := e = .returned (.tuple #[.int .i64 (farZ x n L), .bool (farOk x n L)]) ∧ Below w.heap.size w w'
set_option maxRecDepth 100000 in
set_option maxHeartbeats 2000000 in
theorem far_any (x n : Int) (v : Value) (L : List Int) (w : World) (h1 : -9223372036854775808 ≤ n) (h2 : n ≤ 9223372036854775807) (hr : Rd w v (ivs .i64 L)) :
    Calls Try.prog 21 #[.int .i64 x, v, .int .i64 n] w (FarP x n L w) := by
  have O := fun w => pof_any x n w h1 h2
  have G := fun y w => gap_any x y n w h1 h2
  have eP : ∀ e w', FarP x n L w e w' ↔ e = .returned (.tuple #[.int .i64 (farZ x n L), .bool (farOk x n L)]) ∧ Below w.heap.size w w' := fun _ _ => Iff.rfl
  have hcell : ∀ w' : World, True := fun _ => trivial
  rcases hr.icases with ⟨a, cap, rfl, rfl⟩ | ⟨b, off, cap, hpos, hc1, hc2, rfl, hb, hcell⟩
  · have e1 : farOk x n [] = false := by simp [farOk]
    have e2 : farZ x n [] = 0 := by rw [farZ, e1]; rfl
    rw [e1, e2] at eP
    have HE := Lib.hid (fun w1 h => (eP (.returned (.tuple #[.int .i64 0, .bool false])) w1).2 ⟨rfl, h⟩)
    have HO := Lib.hid O
    clear O G eP e1 e2 hr h1 h2 hcell
    obtain ⟨b, hb⟩ : ∃ b, b = isOf x n := ⟨_, rfl⟩
    rw [← hb] at HO
    clear hb
    go_enter Try.func21, Try.ntmps21
    go_wp2_with fail
    refine (HO.out _).mono ?_
    rintro e w' ⟨rfl, rfl⟩
    cases b with
    | true =>
      go_wp2_with fail
      go_ret2
      exact HE.out _ ((Below.refl _ _).alloc (Nat.le_refl _) _)
    | false =>
      go_wp2_with fail
      go_ret2
      exact HE.out _ ((Below.refl _ _).alloc (Nat.le_refl _) _)
  · obtain ⟨k, hk⟩ : ∃ k, k = L.length := ⟨_, rfl⟩
    have hk0 : (L.length == 0) = false := by rw [beq_eq_false_iff_ne]; omega
    have eOk : farOk x n L = (isOf x n && allOf L n) := by rw [farOk, hk0]; simp
    have C := fun (B : Nat) (w : World) hr hc => pcontains_any n B (.slice (some ⟨b, off, none⟩) L.length cap) L w h1 h2 hr hc
    rw [eOk] at eP
    have eZ : farZ x n L = if (isOf x n && allOf L n) = true then (farAt x n L k).1 else 0 := by rw [farZ, eOk, hk]
    rw [eZ] at eP
    rw [← hk] at hpos hc1 hcell C hr ⊢
    have hkm : k ≤ 9223372036854775807 := by unfold maxLen at hc2; omega
    have hki : ((k : Int) == 0) = false := by rw [beq_eq_false_iff_ne]; omega
    have HE := Lib.hid eP
    have HO := Lib.hid O
    have HG := Lib.hid G
    have HC := Lib.hid C
    have HR := Lib.hid hr
    have HCL := Lib.hid hcell
    have HKL := Lib.hid hk
    clear O G C eP eZ eOk hk0 hr hcell hk h1 h2
    obtain ⟨bo, hbo⟩ : ∃ b, b = isOf x n := ⟨_, rfl⟩
    obtain ⟨al, hal⟩ : ∃ b, b = allOf L n := ⟨_, rfl⟩
    rw [← hbo] at HO HE
    rw [← hal] at HC HE
    clear hbo hal
    go_enter Try.func21, Try.ntmps21
    go_wp2_with fail
    refine (HO.out _).mono ?_
    rintro e w' ⟨rfl, rfl⟩
    cases bo with
    | false =>
      have HE2 := Lib.hid (fun w1 h => (HE.out (.returned (.tuple #[.int .i64 0, .bool false])) w1).2 ⟨rfl, h⟩)
      go_wp2_with fail
      go_ret2
      exact HE2.out _ ((Below.refl _ _).alloc (Nat.le_refl _) _)
    | true =>
      go_wp2_with fail
      refine (HC.out w.heap.size _ (HR.out.alloc _) (by go_simp)).mono ?_
      rintro e w' ⟨rfl, rfl⟩
      cases al with
      | false =>
        have HE2 := Lib.hid (fun w1 h => (HE.out (.returned (.tuple #[.int .i64 0, .bool false])) w1).2 ⟨rfl, h⟩)
        go_wp2_with fail
        go_ret2
        exact HE2.out _ ((Below.refl _ _).alloc (Nat.le_refl _) _)
      | true =>
        have HE2 := Lib.hid (fun w1 h => (HE.out (.returned (.tuple #[.int .i64 (farAt x n L k).1, .bool true])) w1).2 ⟨rfl, h⟩)
        have HRA := Lib.hid (HR.out.alloc (.cells #[.int .i64 n] 3))
        have HBA := Lib.hid ((Below.refl w.heap.size w).alloc (Nat.le_refl _) (.cells #[.int .i64 n] 3))
        have HCA : Hid ((w.alloc (.cells #[.int .i64 n] 3)).cell? ⟨w.heap.size, 0, none⟩ = some (.int .i64 n)) := Lib.hid (by go_simp)
        have HSA : Hid ((w.alloc (.cells #[.int .i64 n] 3)).heap.size = w.heap.size + 1) := Lib.hid (by simp)
        go_wp2_with fail
        obtain ⟨wa, hwa⟩ : ∃ wa, wa = w.alloc (.cells #[.int .i64 n] 3) := ⟨_, rfl⟩
        rw [← hwa] at HRA HBA HCA HSA ⊢
        clear hwa
        go_loopg [8, 9, 30] k (fun q bst fr i wr => ∃ r : Nat, r + q = k ∧ i = .int .i64 (r : Int) ∧ bst = .int .i64 (farAt x n L r).1 ∧ fr = .int .i64 (farAt x n L r).2 ∧ Below wa.heap.size wa wr)
        case atStart => exact ⟨0, by omega, rfl, rfl, rfl, Below.refl _ _⟩
        case round =>
          obtain ⟨r, hr, rfl, rfl, rfl, hbw⟩ := hrel
          have HBW := Lib.hid hbw
          have HBX := Lib.hid (HBA.out.trans (hbw.mono HBA.out.size))
          by_cases hrk : r < k
          · have c0 := Eq.trans (HBX.out.cell (by exact hb)) (HCL.out r hrk)
            have cn := (hbw.cell (p := ⟨w.heap.size, 0, none⟩) (by have := HSA.out; simp only; omega)).trans HCA.out
            have hG := HG.out (L.getD r 0)
            unfold GapP at hG
            have hgb := gapZ_bd x (L.getD r 0) n
            have ef : farAt x n L (r + 1) = if (farAt x n L r).2 < gapZ x (L.getD r 0) n then (L.getD r 0, gapZ x (L.getD r 0) n) else farAt x n L r := rfl
            obtain ⟨z, hz⟩ : ∃ z, z = L.getD r 0 := ⟨_, rfl⟩
            rw [← hz] at hG c0 ef hgb
            obtain ⟨g, hg⟩ : ∃ g, g = gapZ x z n := ⟨_, rfl⟩
            rw [← hg] at hG ef hgb
            obtain ⟨s, hs⟩ : ∃ s, s = farAt x n L r := ⟨_, rfl⟩
            rw [← hs] at ef ⊢
            obtain ⟨s1, s2⟩ := s
            simp only at ef ⊢
            have HG1 := Lib.hid hG
            have HEF := Lib.hid ef
            clear hG ef hz hg hs hgb hbw
            go_wp2_with fail
            refine (HG1.out _).mono ?_
            rintro e w2 ⟨rfl, hb2⟩
            have HBW2 := Lib.hid (Below.next HBW.out hb2)
            clear hb2
            by_cases hgt : s2 < g
            · have ef' := HEF.out
              rw [if_pos hgt] at ef'
              have hd : decide (s2 < g) = true := decide_eq_true hgt
              have HEF2 := Lib.hid ef'
              clear ef'
              go_wp2_with fail
              go_roundg (gk - 1)
              case measure => omega
              case rel => exact ⟨r + 1, by omega, by go_num, by rw [HEF2.out], by rw [HEF2.out], HBW2.out⟩
            · have ef' := HEF.out
              rw [if_neg hgt] at ef'
              have hd : decide (s2 < g) = false := decide_eq_false hgt
              have HEF2 := Lib.hid ef'
              clear ef'
              go_wp2_with fail
              go_roundg (gk - 1)
              case measure => omega
              case rel => exact ⟨r + 1, by omega, by go_num, by rw [HEF2.out], by rw [HEF2.out], HBW2.out⟩
          · obtain rfl : r = k := by omega
            go_wp2_with fail
            go_ret2
            exact HE2.out _ HBX.out
end Go.Proofs.Ytbjfacfphgnhpaa
