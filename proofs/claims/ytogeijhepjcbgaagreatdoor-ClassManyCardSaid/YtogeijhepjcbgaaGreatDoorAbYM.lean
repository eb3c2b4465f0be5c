/- The abstract machine: a region that draws its order, with calls that are walked in place. No program in sight. -/
import Derived.Test.YtogeijhepjcbgaaGreatDoorAbTM
set_option linter.unusedVariables false
set_option linter.unusedSimpArgs false
set_option linter.defProp false
set_option linter.unnecessarySimpa false
set_option linter.unusedSectionVars false
/- The abstract machine: a region that draws its order, with calls that are walked in place. No program in sight. -/
namespace Go.Proofs.YtogeijhepjcbgaaGreatDoor
open Go Go.RowKit
section
variable {P : Program} {e : En} {k0 : Kx} {N : Nat} {I : List Nat} {st st' : St} {a : Act} {w : World} {o : Oper} {p : Prop} {d : Nat} {K : Act → World → Prop} {Q : Exit → Act → World → Prop}
end
section
variable {P : Program} {e : En} {k0 : Kx} {N : Nat} {I : List Nat} {st st' : St} {Q : Exit → St → Prop} {ops : Array Oper}
end
section
variable {P : Program} {e : En} {k0 : Kx} {N : Nat} {I : List Nat} {st : St} {Q : Exit → St → Prop} {ops : Array Oper}
theorem awp_const {id : Nat} {o : Oper} {os : List Oper} {gs : List (Option (Nat × Bool))} {v : Value} {x : AV} {d : Nat} (hl : ops.toList = o :: os) (hg : guardsOf ops = none :: gs) (hN : decide (N < 1000000) = true) (hdst : o.dst = some d) (hdN : d < N)
    (hv : ∀ (a : Act) (w : World), (execOp a.eval o).run P w = .ok (.value v) w) (hx : ∀ κ, denA κ v x) (h : AL P N I (Q .normal) os gs ⟨up st.tm d x, st.H, st.nx, st.nb⟩) : Awp P e k0 N (.region id ops false) Q st := fun a w hr => by
  have hN' := of_decide_eq_true hN
  refine wp_region_list ?_
  unfold guardsOf at hg
  rw [hl] at hg ⊢
  simp only [List.map_cons, List.cons.injEq] at hg
  refine wpList_step fun K hK => ?_
  rw [if_pos (gd_ok hr hN' hg.1.symm rfl)]
  obtain ⟨σ, h1, h2, h3⟩ := hr.ex
  refine wp_value (hv a w) ?_
  rw [hdst]
  exact hK _ _ (AL_ok hN' os gs _ _ _ hg.2.symm h (hr.put h1 h2 h3 (Ext.refl _) (hx _) d hdN))
end
section
variable {P : Program} {N : Nat} {I : List Nat} {Q : St → Prop} {st : St} {o oi oj : Oper} {g : Option (Nat × Bool)} {r s : SchO}
end
section
variable {P : Program} {e : En} {k0 : Kx} {N : Nat} {I : List Nat} {st : St} {Q : Exit → St → Prop} {ops : Array Oper}
end
section
variable {P : Program} {N : Nat} {I : List Nat} {Q : St → Prop} {st : St} {o : Oper} {os : List Oper} {g : Option (Nat × Bool)} {gs : List (Option (Nat × Bool))}
end
end Go.Proofs.YtogeijhepjcbgaaGreatDoor
