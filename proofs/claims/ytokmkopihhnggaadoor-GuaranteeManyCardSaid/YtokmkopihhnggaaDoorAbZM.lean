/- The abstract machine: zeros appended to a row of the call's own. No program in sight. -/
import Derived.Test.YtokmkopihhnggaaDoorBl3M
import Derived.Test.YtokmkopihhnggaaDoorAbTM
import Derived.Laws.Cover3
set_option linter.unusedVariables false
set_option linter.unusedSimpArgs false
set_option linter.defProp false
set_option linter.unnecessarySimpa false
set_option linter.unusedSectionVars false
section
/- The abstract machine: zeros appended to a row of the call's own. No program in sight. -/
namespace Go.Proofs.YtokmkopihhnggaaDoor
open Go Go.RowKit
section
variable {P : Program} {e : En} {k0 : Kx} {N : Nat} {I : List Nat} {st st' : St} {a : Act} {w : World} {o : Oper} {p : Prop} {d : Nat} {K : Act → World → Prop} {Q : Exit → Act → World → Prop}
end
section
variable {P : Program} {e : En} {k0 : Kx} {N : Nat} {I : List Nat} {st : St} {Q : Exit → St → Prop} {ops : Array Oper}
end
section
variable {P : Program} {N : Nat} {I : List Nat} {Q : St → Prop} {st : St} {o : Oper} {os : List Oper} {g : Option (Nat × Bool)} {gs : List (Option (Nat × Bool))}
end
theorem awp_cut2 {P : Program} {e : En} {k0 : Kx} {N : Nat} {st : St} {Q : Exit → St → Prop} {x y : Code} (M : St → Prop) (h : Awp P e k0 N x (Athen (fun st' => ∀ c Q', (∀ st2, M st2 → Awp P e k0 N c Q' st2) → Awp P e k0 N c Q' st') Q) st) (h2 : ∀ st2, M st2 → Awp P e k0 N y Q st2) : Awp P e k0 N (.seq x y) Q st := by
  refine awp_seq (awp_mono h fun ex st' hq => ?_)
  cases ex with
  | normal => exact hq y Q h2
  | _ => exact hq
end Go.Proofs.YtokmkopihhnggaaDoor
end
section
/- The abstract machine: a slice that is read held against nil (both answers are followed); a row under another name. No program in sight. -/
namespace Go.Proofs.YtokmkopihhnggaaDoor
open Go Go.RowKit
section
variable {P : Program} {e : En} {k0 : Kx} {N : Nat} {st : St} {a : Act} {w : World} {Q : Exit → St → Prop} {c : Code}
end
section
variable {P : Program} {e : En} {k0 : Kx} {N : Nat} {I : List Nat} {st st' : St} {a : Act} {w : World} {o : Oper} {p : Prop} {d : Nat} {K : Act → World → Prop} {Q : Exit → Act → World → Prop}
end
section
variable {P : Program} {e : En} {k0 : Kx} {N : Nat} {I : List Nat} {st : St} {Q : Exit → St → Prop} {ops : Array Oper}
end
section
variable {P : Program} {N : Nat} {I : List Nat} {Q : St → Prop} {st : St} {o : Oper} {os : List Oper} {g : Option (Nat × Bool)} {gs : List (Option (Nat × Bool))}
end
end Go.Proofs.YtokmkopihhnggaaDoor
end
section
/- The abstract machine: a region that draws its order where any number of operations may come up. No program in sight. -/
namespace Go.Proofs.YtokmkopihhnggaaDoor
open Go Go.RowKit
inductive Sw where
  | nil : Sw
  | take : Nat → Sw → Sw
  | alt : Nat → Sw → Sw → Sw
  | none : Sw
def Sw.len : Sw → Nat
  | .nil => 0
  | .take _ r => r.len + 1
  | .alt _ r _ => r.len + 1
  | .none => 0
section
variable {P : Program} {ops : Array Oper} {Q : Exit → Act → World → Prop} {md : Region.Mode} {F : Nat → Bool}
end
inductive SwO where
  | nil : SwO
  | take : Oper → Option (Nat × Bool) → SwO → SwO
  | alt : Oper → Option (Nat × Bool) → SwO → SwO → SwO
  | none : SwO
def SwO.fits (ops : Array Oper) (gs : List (Option (Nat × Bool))) : SwO → Sw → Prop
  | .nil, .nil => True
  | .take o g r, .take i s => ops[i]? = some o ∧ gs[i]? = some g ∧ SwO.fits ops gs r s
  | .alt o g r m, .alt i s n => ops[i]? = some o ∧ gs[i]? = some g ∧ SwO.fits ops gs r s ∧ SwO.fits ops gs m n
  | .none, .none => True
  | _, _ => False
def SwO.mk (ops : Array Oper) (gs : List (Option (Nat × Bool))) : Sw → Option SwO
  | .nil => some .nil
  | .take i s => match ops[i]?, gs[i]?, SwO.mk ops gs s with
    | some o, some g, some r => some (.take o g r)
    | _, _, _ => Option.none
  | .alt i s n => match ops[i]?, gs[i]?, SwO.mk ops gs s, SwO.mk ops gs n with
    | some o, some g, some r, some m => some (.alt o g r m)
    | _, _, _, _ => Option.none
  | .none => some .none
theorem SwO.mk_fits {ops : Array Oper} {gs : List (Option (Nat × Bool))} : ∀ {s : Sw} {r : SwO}, SwO.mk ops gs s = some r → SwO.fits ops gs r s
  | .nil, r, h => by
    simp only [SwO.mk, Option.some.injEq] at h
    subst h; trivial
  | .none, r, h => by
    simp only [SwO.mk, Option.some.injEq] at h
    subst h; trivial
  | .take i s, r, h => by
    simp only [SwO.mk] at h
    split at h <;> try (cases h; done)
    rename_i o g r' h1 h2 h3
    simp only [Option.some.injEq] at h
    subst h
    exact ⟨h1, h2, SwO.mk_fits h3⟩
  | .alt i s n, r, h => by
    simp only [SwO.mk] at h
    split at h <;> try (cases h; done)
    rename_i o g r' m' h1 h2 h3 h4
    simp only [Option.some.injEq] at h
    subst h
    exact ⟨h1, h2, SwO.mk_fits h3, SwO.mk_fits h4⟩
section
variable {P : Program} {e : En} {k0 : Kx} {N : Nat} {I : List Nat} {st st' : St} {Q : Exit → St → Prop} {ops : Array Oper}
end
section
variable {P : Program} {N : Nat} {I : List Nat} {Q : St → Prop} {st : St} {o : Oper} {g : Option (Nat × Bool)} {r m : SwO}
end
end Go.Proofs.YtokmkopihhnggaaDoor
end
