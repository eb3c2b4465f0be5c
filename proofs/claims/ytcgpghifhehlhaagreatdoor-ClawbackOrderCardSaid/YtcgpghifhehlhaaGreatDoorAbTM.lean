/- The abstract machine: another base of names; a cell's row published; a table of rows. No program in sight. -/
import Derived.Test.YtcgpghifhehlhaaGreatDoorAbGM
set_option linter.unusedVariables false
set_option linter.unusedSimpArgs false
set_option linter.unusedSectionVars false
namespace Go.Proofs.YtcgpghifhehlhaaGreatDoor
open Go Go.RowKit
section
variable {P : Program} {e : En} {k0 : Kx} {N : Nat} {st : St} {a : Act} {w : World} {Q : Exit → St → Prop} {c : Code}
theorem gF {nm nm2 off s n sz:Nat} {B B2:Blk} (hB:st.H nm=some B) (hB2:st.H nm2=some B2) (hne:nm2≠nm) (hsz:B.sz≠0) (hsz2:B2.sz≠0) (hs:B.st=s) (hc:B2.cs[off]? =some (.own nm s n sz)) (hr:Rel e k0 N st a w):
  Rel e k0 N ⟨st.tm,up (up st.H nm none) nm2 (some {B2 with cs:=B2.cs.set off (.sh sz n B.cs)}),st.nx,st.nb⟩ a w:=by
 obtain ⟨σ,h1,h2,h3⟩:=hr.ex;obtain ⟨k1,k2⟩:=h1.drop nm;have hp:=h1.publish hB hsz;have hB':up st.H nm none nm2=some B2:=by rw [ck _ _ hne];exact hB2
 obtain ⟨g1,g2,xs,g3,g4⟩:=h1.rowOf hB2 (.inl hsz2);obtain ⟨u,q1,q2⟩:=g4.get off hc;simp only [den] at q2;obtain ⟨r1,r2,r3⟩:=q2.2.2 B hB hs;have hlt:off<xs.length:=(List.getElem?_eq_some_iff.1 q1).1;have hxu:xs[off]=u:=(List.getElem?_eq_some_iff.1 q1).2;have hset:xs.set off u=xs:=by rw [←hxu];exact List.set_getElem_self hlt
 have hu:den (kx e (up st.H nm none) st.nx σ w) u (.sh sz n B.cs):=by
  rw [←r2,←r3,r1];exact hp
 have hd:=(dQ k2 g4).set off hu;rw [hset] at hd;obtain ⟨m1,m2⟩:=k1.upd (w':=w) hB' ⟨rfl,rfl,rfl,Nat.le_refl _,fun _ _ _=>rfl⟩ (cs:=B2.cs.set off (.sh sz n B.cs)) hsz2 (by simpa using g2) g3 hd;exact ⟨⟨_,m1,fun t'=>dz (k2.trans m2) (h2 t'),h3.trans (k2.trans m2)⟩,hr.df,hr.sz⟩
theorem ao (nm nm2 off:Nat) {s n sz:Nat} {B B2:Blk} (hB:st.H nm=some B) (hB2:st.H nm2=some B2) (hc:B2.cs[off]? =some (.own nm s n sz)) (hne:nm2≠nm) (hsz:B.sz≠0) (hsz2:B2.sz≠0) (hs:B.st=s)
  (h:Awp P e k0 N c Q ⟨st.tm,up (up st.H nm none) nm2 (some {B2 with cs:=B2.cs.set off (.sh sz n B.cs)}),st.nx,st.nb⟩):Awp P e k0 N c Q st:=be (fun _ _ hr=>gF hB hB2 hne hsz hsz2 hs hc hr) h
end
section
variable {P : Program} {e : En} {k0 : Kx} {N : Nat} {tm : Nat → AV} {nb s : Nat} {Q : Exit → St → Prop} {c : Code}
end
end Go.Proofs.YtcgpghifhehlhaaGreatDoor
