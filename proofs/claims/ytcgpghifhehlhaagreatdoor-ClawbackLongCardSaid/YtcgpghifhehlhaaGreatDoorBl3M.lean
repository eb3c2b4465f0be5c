/- The builder's debts; walked by the abstract machine. -/
import Derived.Test.YtcgpghifhehlhaaGreatDoorLawM
set_option linter.unusedVariables false
set_option linter.unusedSimpArgs false
set_option linter.unusedSectionVars false
namespace Go.Proofs.YtcgpghifhehlhaaGreatDoor
open Go Go.RowKit
structure OS where
 k:Nat
 h:Int
 l:List Leg
section
variable {P : Program} {e : En} {k0 : Kx} {N : Nat} {st : St} {a : Act} {w : World} {Q : Exit → St → Prop} {c : Code}
theorem vt (nm:Nat) {B:Blk} (cs':List C) (hB:st.H nm=some B) (hsz:B.sz≠0) (hl:cs'.length=B.cs.length) (h:∀(κ:Kx) (vs:List Value),denVs κ vs B.cs->denVs κ vs cs'):
  Wk e k0 N st ⟨st.tm,up st.H nm (some {B with cs:=cs'}),st.nx,st.nb⟩:=by
 intro a w hr;obtain ⟨σ,h1,h2,h3⟩:=hr.ex;obtain ⟨g1,g2,xs,g3,g4⟩:=h1.rowOf hB (.inl hsz);obtain ⟨m1,m2⟩:=h1.upd (w':=w) hB ⟨rfl,rfl,rfl,Nat.le_refl _,fun _ _ _=>rfl⟩ (cs:=cs') hsz (by rw [hl];exact g2) g3 (h _ _ g4);exact ⟨⟨_,m1,fun t'=>dz m2 (h2 t'),h3.trans m2⟩,hr.df,hr.sz⟩
end
theorem jY {κ:Kx} {v:Value} (sz:Nat) (h:den κ v (.lit (.slice none 0 0))):den κ v (.sh sz 0 []):=by
 simp only [den] at h ⊢;exact ⟨none,0,h.1,Nat.le_refl _,by unfold maxLen;omega,fun _=>rfl,by simp,.inl trivial⟩
theorem aW {κ:Kx} {vs:List Value} {c:C} {cs:List C} (h:denVs κ vs (c::cs)):∃v vs',vs=v::vs'/\den κ v c/\denVs κ vs' cs:=by
 cases vs with
 |nil=>exact h.elim
 |cons v vs=>exact ⟨v,vs,rfl,h.1,h.2⟩
def vB (n:Nat):List C:=[.lit (.int .u16 n)]
end Go.Proofs.YtcgpghifhehlhaaGreatDoor
