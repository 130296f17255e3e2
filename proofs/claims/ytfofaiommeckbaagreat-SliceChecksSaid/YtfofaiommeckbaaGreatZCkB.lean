/- Short names for facts that the texts of this claim use all the time. -/
import Derived.Lib.Hide
namespace Go.Proofs.YtfofaiommeckbaaGreat
open Go.RowKit
theorem eX {α:Sort _}(e: α):∃x,x=e:=⟨_,rfl⟩
theorem bR {n:Nat} {w:World}:Below n w w:=Below.refl n w
theorem lR {n:Nat}:n≤n:=Nat.le_refl n
theorem Hd {p:Prop}(h:p):Hid p:=h
theorem dF {p:Prop} [Decidable p](h:¬p):decide p=false:=decide_eq_false h
theorem dT {p:Prop} [Decidable p](h:p):decide p=true:=decide_eq_true h
theorem dN {p:Prop} [Decidable p]:decide p=false↔¬p:=decide_eq_false_iff_not
theorem dI {p:Prop} [Decidable p]:decide p=true↔p:=decide_eq_true_iff
theorem oD {p:Prop} [Decidable p](h:decide p=true):p:=of_decide_eq_true h
theorem iN {c:Prop} {h:Decidable c}(hnc:¬c) {α:Sort _} {t e: α}:ite c t e=e:=if_neg hnc
theorem iP {c:Prop} {h:Decidable c}(hc:c) {α:Sort _} {t e: α}:ite c t e=t:=if_pos hc
theorem qN {α:Type _} [BEq α] [LawfulBEq α] {a b: α}:(a==b)=false↔a≠b:=beq_eq_false_iff_ne
end Go.Proofs.YtfofaiommeckbaaGreat
