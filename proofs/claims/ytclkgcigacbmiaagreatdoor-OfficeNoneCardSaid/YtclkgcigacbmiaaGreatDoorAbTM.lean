/- The abstract machine: another base of names; a cell's row published; a table of rows. No program in sight. -/
import Derived.Test.YtclkgcigacbmiaaGreatDoorAbGM
set_option linter.unusedVariables false
set_option linter.unusedSimpArgs false
set_option linter.unusedSectionVars false
namespace Go.Proofs.YtclkgcigacbmiaaGreatDoor
open Go Go.RowKit
section
variable {P : Program} {e : En} {k0 : Kx} {N : Nat} {st : St} {a : Act} {w : World} {Q : Exit → St → Prop} {c : Code}
theorem wQ (nb':Nat) (h:Awp P e k0 N c Q ⟨st.tm,st.H,st.nx,nb'⟩):Awp P e k0 N c Q st:=aN (st2:=⟨st.tm,st.H,st.nx,nb'⟩) (fun _ _ hr=>⟨hr.ex,hr.df,hr.sz⟩) h
end
section
variable {P : Program} {e : En} {k0 : Kx} {N : Nat} {tm : Nat → AV} {nb s : Nat} {Q : Exit → St → Prop} {c : Code}
end
end Go.Proofs.YtclkgcigacbmiaaGreatDoor
