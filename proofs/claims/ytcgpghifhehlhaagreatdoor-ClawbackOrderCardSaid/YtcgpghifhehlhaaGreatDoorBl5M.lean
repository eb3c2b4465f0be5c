/- The builder of groups: law0.Group; walked by the abstract machine. -/
import Derived.Test.YtcgpghifhehlhaaGreatDoorGu1M
import Derived.Test.YtcgpghifhehlhaaGreatDoorFewM
import Derived.Test.YtcgpghifhehlhaaGreatDoorAbBM
set_option linter.unusedVariables false
set_option linter.unusedSimpArgs false
set_option linter.unusedSectionVars false
namespace Go.Proofs.YtcgpghifhehlhaaGreatDoor
open Go Go.RowKit

theorem cC {κ:Kx} {vs:List Value} {a:A1} {l:List A1} (h:cz κ vs (a::l)):∃v vs',vs=v::vs'/\bb κ v a/\cz κ vs' l:=by
 cases vs with
 |nil=>exact h.elim
 |cons v vs=>exact ⟨v,vs,rfl,h.1,h.2⟩
section
variable {e : En} {H : Hp} {nx : Nat} {σ : Nat → Value} {w : World}
end
end Go.Proofs.YtcgpghifhehlhaaGreatDoor
