/- Walks: the reference's Fits. -/
import Derived.Test.YtbjfacfphgnhpaaWalkPathOff
namespace Go.Proofs.Ytbjfacfphgnhpaa
open Go.RowKit WalkM
set_option maxRecDepth 100000 in
set_option maxHeartbeats 1000000 in
theorem rfits_any (n : Int) (w : World) :
    Calls Try.prog 45 #[.int .i64 n] w fun e w' => e = .returned (.bool (fits n.toNat)) ∧ w = w' := by
  go_enter Try.func45, Try.ntmps45
  go_wp2_with fail
  go_loopg [3] 17 (fun k i wr => ∃ d : Nat, d + k = 17 ∧ i = .int .i64 ((2 ^ d : Nat) : Int) ∧ (∀ e, e < d → n ≠ ((2 ^ e : Nat) : Int)) ∧ wr = w)
  case atStart => exact ⟨0, rfl, rfl, fun e h => absurd h (by omega), rfl⟩
  case round =>
    obtain ⟨d, hd, rfl, hno, rfl⟩ := hrel
    have HNO := Lib.hid hno
    clear hno
    by_cases h17 : d = 17
    · subst h17
      have hf : fits n.toNat = false := by
        rw [← Bool.not_eq_true]
        intro h
        obtain ⟨e, he, h⟩ := (fits_iff _).1 h
        have hp := pow_pos' e
        exact HNO.out e (by omega) (by omega)
      have HF := Lib.hid hf
      clear hf
      have e17 : ((2 ^ 17 : Nat) : Int) = 131072 := by decide
      rw [e17]
      go_wp2_with fail
      go_ret
      exact ⟨ret_bool HF.out.symm, rfl⟩
    · have hd16 : d ≤ 16 := by omega
      have hle := two_pow_le hd16
      have he2 : 2 ^ (d + 1) = 2 * 2 ^ d := by rw [Nat.pow_succ]; omega
      obtain ⟨p, hp⟩ : ∃ p, p = 2 ^ d := ⟨_, rfl⟩
      have HE := Lib.hid he2
      have HP := Lib.hid hp
      rw [← hp] at hle ⊢
      clear he2 hp h17
      by_cases hn : n = (p : Int)
      · subst hn
        have hf : fits (p : Int).toNat = true := by rw [Int.toNat_natCast, HP.out]; exact (fits_iff _).2 ⟨d, hd16, rfl⟩
        have HF := Lib.hid hf
        clear hf
        go_wp2_with fail
        go_ret
        exact ⟨ret_bool HF.out.symm, rfl⟩
      · have hc : ((p : Int) == n) = false := by rw [beq_eq_false_iff_ne]; omega
        have HNE := Lib.hid hn
        clear hn
        go_wp2_with fail
        go_roundg (gk - 1)
        case measure => omega
        case rel =>
          refine ⟨d + 1, by omega, by rw [HE.out, ← HP.out]; go_num, ?_, rfl⟩
          intro e he
          by_cases h : e = d
          · subst h; rw [← HP.out]; exact HNE.out
          · exact HNO.out e (by omega)
end Go.Proofs.Ytbjfacfphgnhpaa
