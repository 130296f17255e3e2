/- Walks: the reference's Hash of any node of a tree that may be, without some leaves' places. -/
import Derived.Test.YtohldijomcljkaaGreatZHashSeen26
import Derived.Test.YtohldijomcljkaaGreatZHashSeen39
import Derived.Test.YtohldijomcljkaaGreatZHashSeen33
namespace Go.Proofs.YtohldijomcljkaaGreat
open Go.RowKit WalkM ShaM WireM
set_option linter.unusedVariables false
set_option maxRecDepth 100000 in
set_option maxHeartbeats 1000000 in
theorem rhash_of (t : List NodeD) (ps : List Int) (hs : smallT t = true) (hok : TreeOk t) (k : Nat) (hT : RTextP t ps k) : RHashP t ps k := by
  intro x v vp w h hpr hlev hx
  have C := Lib.hid (hT x v vp w h hpr hlev hx)
  have hl := textN_len (woD_small hs ps) k x
  have hlt := textN_lt' (woD t ps) (woD_ok hok ps) (woD_small hs ps) k x
  have HE := Lib.hid (hashN_eq (woD t ps) k x)
  obtain ⟨TX, hTX⟩ : ∃ T, T = textN (woD t ps) k x := ⟨_, rfl⟩
  rw [← hTX] at C hl hlt HE
  rw [HE.out]
  have HL := Lib.hid (show TX.length ≤ 1000000 by omega)
  have HLT := Lib.hid hlt
  obtain ⟨a1, a2, a3, rfl⟩ : ∃ a b c, v = .slice a b c := by obtain ⟨a, c, e, _⟩ := h.sl; exact ⟨_, _, _, e⟩
  clear hl hlt hTX h hpr hlev hx hT
  go_enter Tryz.func34, Tryz.ntmps34
  go_wp2_with fail
  refine (C.out).mono ?_
  rintro e w1 ⟨v1, rfl, hown, hb⟩
  have HR := Lib.hid hown.rd
  have HB := Lib.hid hb
  clear hown hb
  go_wp2_with fail
  refine (digest_any _ TX w1 HR.out HLT.out HL.out).mono ?_
  rintro e w2 ⟨v2, rfl, hown, hb⟩
  have HO := Lib.hid (hown.mono HB.out.size)
  have HB2 := Lib.hid (HB.out.trans (hb.mono HB.out.size))
  clear hown hb
  go_wp2_with fail
  go_ret
  exact ⟨_, rfl, HO.out, HB2.out⟩
theorem rboth_any (t : List NodeD) (ps : List Int) (hs : smallT t = true) (hok : TreeOk t) (hp : placedB t = true) : ∀ k, RTextP t ps k ∧ RHashP t ps k := by
  intro k
  induction k with
  | zero => have h := rtext_zero t ps hs hok hp; exact ⟨h, rhash_of t ps hs hok 0 h⟩
  | succ k ih => have h := rtext_succ t ps hs hok hp k ih.2; exact ⟨h, rhash_of t ps hs hok (k + 1) h⟩
end Go.Proofs.YtohldijomcljkaaGreat
