/- Walks: the reference's Digest. -/
import Derived.Test.YtohldijomcljkaaGreatZHashSeen38
namespace Go.Proofs.YtohldijomcljkaaGreat
open Go.RowKit ShaM WireM
set_option linter.unusedVariables false
set_option maxRecDepth 100000 in
set_option maxHeartbeats 1000000 in
theorem digest_any (v : Value) (L : List Nat) (w : World) (h : Rd w v (bvs L)) (hL : ∀ x ∈ L, x < 256) (hl : L.length ≤ 1000000) :
    Calls Tryz.prog 31 #[v] w fun e w' => ∃ v', e = .returned v' ∧ Own w' w.heap.size 5 v' (bvs (shaF L)) ∧ Below w.heap.size w w' := by
  have TB := Lib.hid (table_any w)
  have RS := Lib.hid (fun (W : World) (hw : Below w.heap.size w W) (vh vk : Value) (hh : Rd W vh (qvs HL0)) (hk : Rd W vk (qvs KL)) => rsum_any v vh vk L W (h.below hw (Nat.le_refl _)) hh hk hL hl)
  clear h hL hl
  go_enter Tryz.func31, Tryz.ntmps31
  go_wp2_with fail
  refine (TB.out).mono ?_
  rintro e w1 ⟨v1, v2, rfl, h1, h2, hb⟩
  have C := Lib.hid (RS.out w1 hb v1 v2 h1 h2)
  have HB := Lib.hid hb
  clear h1 h2 hb
  go_wp2_with fail
  refine (C.out).mono ?_
  rintro e w2 ⟨v3, rfl, hown, hb2⟩
  have HO := Lib.hid hown
  have HB2 := Lib.hid (HB.out.trans (hb2.mono HB.out.size))
  clear hown hb2
  go_wp2_with fail
  go_ret
  exact ⟨_, rfl, HO.out.mono HB.out.size, HB2.out⟩
end Go.Proofs.YtohldijomcljkaaGreat
