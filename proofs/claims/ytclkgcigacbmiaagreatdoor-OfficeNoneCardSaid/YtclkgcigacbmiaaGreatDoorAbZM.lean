/- The abstract machine: zeros appended to a row of the call's own. No program in sight. -/
import Derived.Test.YtclkgcigacbmiaaGreatDoorAbBM
import Derived.Laws.Cover3
set_option linter.unusedVariables false
set_option linter.unusedSimpArgs false
set_option linter.unusedSectionVars false
namespace Go.Proofs.YtclkgcigacbmiaaGreatDoor
open Go Go.RowKit
section
variable {P : Program} {e : En} {k0 : Kx} {N : Nat} {I : List Nat} {st st' : St} {a : Act} {w : World} {o : Oper} {p : Prop} {d : Nat} {K : Act → World → Prop} {Q : Exit → Act → World → Prop}
end
section
variable {P : Program} {e : En} {k0 : Kx} {N : Nat} {I : List Nat} {st : St} {Q : Exit → St → Prop} {ops : Array Oper}
end
section
variable {P : Program} {N : Nat} {I : List Nat} {Q : St → Prop} {st : St} {o : Oper} {os : List Oper} {g : Option (Nat × Bool)} {gs : List (Option (Nat × Bool))}
end
theorem sl {P:Program} {e:En} {k0:Kx} {N:Nat} {st:St} {Q:Exit->St->Prop} {x y:Code} (M:St->Prop) (h:Awp P e k0 N x (ga (fun st'=>∀c Q',(∀st2,M st2->Awp P e k0 N c Q' st2)->Awp P e k0 N c Q' st') Q) st) (h2:∀st2,M st2->Awp P e k0 N y Q st2):Awp P e k0 N (.seq x y) Q st:=by
 refine iH (mc h fun ex st' hq=>?_);cases ex with
 |normal=>exact hq y Q h2
 |_=>exact hq
section
variable {P : Program} {e : En} {k0 : Kx} {N : Nat} {st : St} {a : Act} {w : World} {Q : Exit → St → Prop} {c : Code}
end
section
variable {P : Program} {e : En} {k0 : Kx} {N : Nat} {I : List Nat} {st st' : St} {a : Act} {w : World} {o : Oper} {p : Prop} {d : Nat} {K : Act → World → Prop} {Q : Exit → Act → World → Prop}
end
section
variable {P : Program} {e : En} {k0 : Kx} {N : Nat} {I : List Nat} {st : St} {Q : Exit → St → Prop} {ops : Array Oper}
end
section
variable {P : Program} {N : Nat} {I : List Nat} {Q : St → Prop} {st : St} {o : Oper} {os : List Oper} {g : Option (Nat × Bool)} {gs : List (Option (Nat × Bool))}
end
end Go.Proofs.YtclkgcigacbmiaaGreatDoor
