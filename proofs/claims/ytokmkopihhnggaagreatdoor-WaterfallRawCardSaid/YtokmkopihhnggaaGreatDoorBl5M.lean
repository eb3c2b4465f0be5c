/- The builder of groups: law0.Group; walked by the abstract machine. -/
import Derived.Test.YtokmkopihhnggaaGreatDoorGu1M
import Derived.Test.YtokmkopihhnggaaGreatDoorFewM
import Derived.Test.YtokmkopihhnggaaGreatDoorAbBM
set_option linter.unusedVariables false
set_option linter.unusedSimpArgs false
set_option linter.unusedSectionVars false
namespace Go.Proofs.YtokmkopihhnggaaGreatDoor
open Go Go.RowKit

theorem fS (n:Nat) (h:n<256):qB 1 (((n:Nat):Int):Rat):=⟨by simp;omega,by simp⟩
theorem xZ {P:Program} {f:FuncId} {args args':List A1} {res:AV} (h:aR P f args res) (hd:∀κ vs,dh κ vs args'->dh κ vs args):aR P f args' res:=
 ⟨h.1,fun w T vs hT hv=>h.2 w T vs hT (hd _ _ hv)⟩
theorem bV {κ:Kx} {vs:List Value} {a:A1} {l:List A1} (h:dh κ vs (a::l)):∃v vs',vs=v::vs'/\bl κ v a/\dh κ vs' l:=by
 cases vs with
 |nil=>exact h.elim
 |cons v vs=>exact ⟨v,vs,rfl,h.1,h.2⟩
section
variable {e : En} {H : Hp} {nx : Nat} {σ : Nat → Value} {w : World}
theorem eS:∀b,(kx e H nx σ w).S b->(fd w).S b/\(fd w).w.heap[b]? =(kx e H nx σ w).w.heap[b]? :=fun b hb=>⟨oJ hb.2.1,rfl⟩
theorem kj (hW:RW e H nx σ w) {v:Value} {nm s n sz:Nat} {B:Blk} (hd:den (kx e H nx σ w) v (.own nm s n sz)) (hB:H nm=some B) (hs:B.st=s) (hsz:B.sz≠0) {cs':List C}
  (hc:∀xs,denVs (kx e H nx σ w) xs B.cs->denVs (fd w) xs cs'):den (fd w) v (.sh sz n cs'):=C9 hW hB hsz hs hd hc
end
end Go.Proofs.YtokmkopihhnggaaGreatDoor
