/- The abstract machine: zeros appended to a row of the call's own. No program in sight. -/
import Derived.Test.YtcgpghifhehlhaaGreatDoorAbBM
import Derived.Laws.Cover3
set_option linter.unusedVariables false
set_option linter.unusedSimpArgs false
set_option linter.unusedSectionVars false
namespace Go.Proofs.YtcgpghifhehlhaaGreatDoor
open Go Go.RowKit
section
variable {P : Program} {e : En} {k0 : Kx} {N : Nat} {I : List Nat} {st st' : St} {a : Act} {w : World} {o : Oper} {p : Prop} {d : Nat} {K : Act → World → Prop} {Q : Exit → Act → World → Prop}
end
section
variable {P : Program} {e : En} {k0 : Kx} {N : Nat} {I : List Nat} {st : St} {Q : Exit → St → Prop} {ops : Array Oper}
end
section
variable {P : Program} {N : Nat} {I : List Nat} {Q : St → Prop} {st : St} {o : Oper} {os : List Oper} {g : Option (Nat × Bool)} {gs : List (Option (Nat × Bool))}
end
section
variable {P : Program} {e : En} {k0 : Kx} {N : Nat} {st : St} {a : Act} {w : World} {Q : Exit → St → Prop} {c : Code}
theorem nZ {nm nm' nm2 off s n sz:Nat} {B B2:Blk} (hB:st.H nm=some B) (hB2:st.H nm2=some B2) (hne:nm2≠nm) (hne':nm2≠nm') (hsz:B.sz≠0) (hsz2:B2.sz≠0) (hs:B.st=s) (hc:B2.cs[off]? =some (.own nm s n sz)) (hr:Rel e k0 N st a w):
  Rel e k0 N ⟨st.tm,up (up (up st.H nm none) nm' (some ⟨st.nx,B.E,B.sz,B.n,B.cs⟩)) nm2 (some {B2 with cs:=B2.cs.set off (.own nm' st.nx n sz)}),st.nx+1,st.nb⟩ a w:=by
 obtain ⟨σ,h1,h2,h3⟩:=hr.ex;obtain ⟨b1,b2,ys,b3,b4⟩:=h1.rowOf hB (.inl hsz);obtain ⟨k1,k2⟩:=RW.new (nm0:=nm) (d:=nm') (row:=none) h1 (w':=w) ⟨rfl,rfl,rfl,Nat.le_refl _,fun _ _ _=>rfl⟩ (B':=⟨st.nx,B.E,B.sz,B.n,B.cs⟩) (v':=σ nm) (xs:=ys) rfl hsz b2 (by simp) (fun r hr=> .inr ⟨hr,B,hB⟩) b3 b4;have hB':up (up st.H nm none) nm' (some ⟨st.nx,B.E,B.sz,B.n,B.cs⟩) nm2=some B2:=by rw [ck _ _ hne',ck _ _ hne];exact hB2
 obtain ⟨g1,g2,xs,g3,g4⟩:=h1.rowOf hB2 (.inl hsz2);obtain ⟨u,q1,q2⟩:=g4.get off hc;simp only [den] at q2;obtain ⟨r1,r2,r3⟩:=q2.2.2 B hB hs;have hlt:off<xs.length:=(List.getElem?_eq_some_iff.1 q1).1;have hxu:xs[off]=σ nm:=by
  have:=(List.getElem?_eq_some_iff.1 q1).2;rw [this];exact r1
 have hset:xs.set off (σ nm)=xs:=by rw [←hxu];exact List.set_getElem_self hlt
 have hone:(σ nm).oneCell'=true:=by have h:=q2.1;rw [r1] at h;exact h
 have hown:=cb (e:=e) (H:=up st.H nm none) (nx:=st.nx) (E:=B.E) (sz:=B.sz) (n:=B.n) (cs:=B.cs) nm' (v:=σ nm) σ w hone;rw [r2,r3] at hown;have hd:=(dQ k2 g4).set off (v:=σ nm) (c:= .own nm' st.nx n sz) (by have h:=hown;rw [←r2,←r3] at h ⊢;exact h);rw [hset] at hd;obtain ⟨m1,m2⟩:=k1.upd (w':=w) hB' ⟨rfl,rfl,rfl,Nat.le_refl _,fun _ _ _=>rfl⟩ (cs:=B2.cs.set off (.own nm' st.nx n sz)) hsz2 (by simpa using g2) (by rw [ck _ _ hne'];exact g3) hd;exact ⟨⟨_,m1,fun t'=>dz (k2.trans m2) (h2 t'),h3.trans (k2.trans m2)⟩,hr.df,hr.sz⟩
theorem eO (nm nm' nm2 off:Nat) {s n sz:Nat} {B B2:Blk} (hB:st.H nm=some B) (hB2:st.H nm2=some B2) (hc:B2.cs[off]? =some (.own nm s n sz)) (hne:nm2≠nm) (hne':nm2≠nm') (hsz:B.sz≠0) (hsz2:B2.sz≠0) (hs:B.st=s)
  (h:Awp P e k0 N c Q ⟨st.tm,up (up (up st.H nm none) nm' (some ⟨st.nx,B.E,B.sz,B.n,B.cs⟩)) nm2 (some {B2 with cs:=B2.cs.set off (.own nm' st.nx n sz)}),st.nx+1,st.nb⟩):Awp P e k0 N c Q st:=be (fun _ _ hr=>nZ hB hB2 hne hne' hsz hsz2 hs hc hr) h
end
section
variable {P : Program} {e : En} {k0 : Kx} {N : Nat} {I : List Nat} {st st' : St} {a : Act} {w : World} {o : Oper} {p : Prop} {d : Nat} {K : Act → World → Prop} {Q : Exit → Act → World → Prop}
end
section
variable {P : Program} {e : En} {k0 : Kx} {N : Nat} {I : List Nat} {st : St} {Q : Exit → St → Prop} {ops : Array Oper}
end
section
variable {P : Program} {N : Nat} {I : List Nat} {Q : St → Prop} {st : St} {o : Oper} {os : List Oper} {g : Option (Nat × Bool)} {gs : List (Option (Nat × Bool))}
end
def orT (q:Nat) (E:TypeId) (ps:List (GEst×Nat)) (H:Hp):Hp:=fun x=>match tbl q E ps x with
 |some B=>some B
 |none=>H x
theorem vT {q:Nat} {E:TypeId} {ps:List (GEst×Nat)} {H:Hp} {x:Nat} {B:Blk} (h:orT q E ps H x=some B):(∃i p,x=1000*(i+1)+q/\ps[i]? =some p/\B=⟨p.2,E,5,p.1.claims.length,ar aA p.1.claims⟩)∨H x=some B:=by
 unfold orT at h;split at h
 ·rename_i B' hB;obtain rfl:=Option.some.inj h;exact .inl (bD hB)
 exact .inr h
theorem yZ {q:Nat} {E:TypeId} {ps:List (GEst×Nat)} {H:Hp} {i:Nat} {p:GEst×Nat} (hq:q<1000) (h:ps[i]? =some p):orT q E ps H (1000*(i+1)+q)=some ⟨p.2,E,5,p.1.claims.length,ar aA p.1.claims⟩:=by
 unfold orT;rw [bk hq h]
theorem xF {q:Nat} {E:TypeId} {ps:List (GEst×Nat)} {H:Hp} {x:Nat} (h:x<1000):orT q E ps H x=H x:=by
 unfold orT;rw [xn h]
end Go.Proofs.YtcgpghifhehlhaaGreatDoor
