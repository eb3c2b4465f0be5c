/- The abstract machine: a call to which a row of the caller's is given up. No program in sight. -/
import Derived.Test.YtcgpghifhehlhaaGreatDoorAbBM
set_option linter.unusedVariables false
set_option linter.unusedSimpArgs false
set_option linter.unusedSectionVars false
namespace Go.Proofs.YtcgpghifhehlhaaGreatDoor
open Go Go.RowKit
section
variable {P : Program} {e : En} {H : Hp} {nx : Nat} {σ : Nat → Value} {w : World}
theorem Jv {f:FuncId} {args args':List A1} {res:AV} {H:Hp} {nx nm:Nat} (h:ch P f args res) (hr:bu aI res=true) (ha:args.all aI=true)
  (hs:∀(e:En) (σ:Nat->Value) (w:World) (vs:List Value),RW e H nx σ w->Ext (kx e H nx σ w) (kx e (up H nm none) nx σ w)->cz (kx e H nx σ w) vs args'->cz (kx e (up H nm none) nx σ w) vs args):
  dk P f args' H nx (fun r H' nx'=>r=res/\H'=up H nm none/\nx'=nx):=by
 refine ⟨h.1,fun e σ w vs hW hv=>?_⟩;obtain ⟨hW2,hx⟩:=hW.drop nm;have hv2:=hs e σ w vs hW hx hv;refine (h.2 w (kx e (up H nm none) nx σ w).S vs (fun b hb=>hb.2.1) (iZ (κ:=kx e (up H nm none) nx σ w) (κ':=kIn w (kx e (up H nm none) nx σ w).S w) (fun b hb=>⟨⟨.inl hb,hb.2.1,fun _ _ h=>by cases h⟩,rfl⟩) ha hv2)).mono fun ex w' ⟨v,he,hb,hd⟩=>?_
 obtain ⟨q1,q2⟩:=hW2.keep (iK hb);refine ⟨v,res,up H nm none,nx,σ,he,q1,hx.trans q2,?_,rfl,rfl,rfl⟩;refine sM (κ:=kIn w (kx e (up H nm none) nx σ w).S w') (κ':=kx e (up H nm none) nx σ w') (fun b hbS=>⟨?_,rfl⟩) hr hd;obtain ⟨h5,h6,_⟩:=hbS;rcases h5 with h5|h5
 ·have h5':(kx e (up H nm none) nx σ w).S b:=h5;exact ⟨h5'.1,h6,h5'.2.2⟩
 refine ⟨.inr (Nat.le_trans hW2.size h5),h6,fun nm' B hB hob=>?_⟩;have:=(hW2.lt hB hob).2;have h5':w.heap.size<=b:=h5;omega
theorem qx (hW:RW e H nx σ w) {v:Value} {nm s n sz:Nat} {B:Blk} (hd:den (kx e H nx σ w) v (.own nm s n sz)) (hB:H nm=some B) (hs:B.st=s) (hsz:B.sz≠0):
  den (kx e (up H nm none) nx σ w) v (.sh sz n B.cs):=by
 simp only [den] at hd;obtain ⟨e1,e2,e3⟩:=hd.2.2 B hB hs;subst e2;subst e3;have e1':v=σ nm:=e1;rw [e1'];exact hW.publish hB hsz
end
end Go.Proofs.YtcgpghifhehlhaaGreatDoor
