/- The abstract machine: another base of names; a cell's row published; a table of rows. No program in sight. -/
import Derived.Test.YtcgpghifhehlhaaGreatDoorAbGM
set_option linter.unusedVariables false
set_option linter.unusedSimpArgs false
set_option linter.unusedSectionVars false
namespace Go.Proofs.YtcgpghifhehlhaaGreatDoor
open Go Go.RowKit
section
variable {P : Program} {e : En} {k0 : Kx} {N : Nat} {st : St} {a : Act} {w : World} {Q : Exit → St → Prop} {c : Code}
theorem cf (nb':Nat) (h:Awp P e k0 N c Q ⟨st.tm,st.H,st.nx,nb'⟩):Awp P e k0 N c Q st:=be (st2:=⟨st.tm,st.H,st.nx,nb'⟩) (fun _ _ hr=>⟨hr.ex,hr.df,hr.sz⟩) h
theorem gk (nb':Nat):Wk e k0 N st ⟨st.tm,st.H,st.nx,nb'⟩:=fun _ _ hr=>⟨hr.ex,hr.df,hr.sz⟩
theorem gF {nm nm2 off s n sz:Nat} {B B2:Blk} (hB:st.H nm=some B) (hB2:st.H nm2=some B2) (hne:nm2≠nm) (hsz:B.sz≠0) (hsz2:B2.sz≠0) (hs:B.st=s) (hc:B2.cs[off]? =some (.own nm s n sz)) (hr:Rel e k0 N st a w):
  Rel e k0 N ⟨st.tm,up (up st.H nm none) nm2 (some {B2 with cs:=B2.cs.set off (.sh sz n B.cs)}),st.nx,st.nb⟩ a w:=by
 obtain ⟨σ,h1,h2,h3⟩:=hr.ex;obtain ⟨k1,k2⟩:=h1.drop nm;have hp:=h1.publish hB hsz;have hB':up st.H nm none nm2=some B2:=by rw [ck _ _ hne];exact hB2
 obtain ⟨g1,g2,xs,g3,g4⟩:=h1.rowOf hB2 (.inl hsz2);obtain ⟨u,q1,q2⟩:=g4.get off hc;simp only [den] at q2;obtain ⟨r1,r2,r3⟩:=q2.2.2 B hB hs;have hlt:off<xs.length:=(List.getElem?_eq_some_iff.1 q1).1;have hxu:xs[off]=u:=(List.getElem?_eq_some_iff.1 q1).2;have hset:xs.set off u=xs:=by rw [←hxu];exact List.set_getElem_self hlt
 have hu:den (kx e (up st.H nm none) st.nx σ w) u (.sh sz n B.cs):=by
  rw [←r2,←r3,r1];exact hp
 have hd:=(dQ k2 g4).set off hu;rw [hset] at hd;obtain ⟨m1,m2⟩:=k1.upd (w':=w) hB' ⟨rfl,rfl,rfl,Nat.le_refl _,fun _ _ _=>rfl⟩ (cs:=B2.cs.set off (.sh sz n B.cs)) hsz2 (by simpa using g2) g3 hd;exact ⟨⟨_,m1,fun t'=>dz (k2.trans m2) (h2 t'),h3.trans (k2.trans m2)⟩,hr.df,hr.sz⟩
theorem ao (nm nm2 off:Nat) {s n sz:Nat} {B B2:Blk} (hB:st.H nm=some B) (hB2:st.H nm2=some B2) (hc:B2.cs[off]? =some (.own nm s n sz)) (hne:nm2≠nm) (hsz:B.sz≠0) (hsz2:B2.sz≠0) (hs:B.st=s)
  (h:Awp P e k0 N c Q ⟨st.tm,up (up st.H nm none) nm2 (some {B2 with cs:=B2.cs.set off (.sh sz n B.cs)}),st.nx,st.nb⟩):Awp P e k0 N c Q st:=be (fun _ _ hr=>gF hB hB2 hne hsz hsz2 hs hc hr) h
end
def tbl (q:Nat) (E:TypeId) (ps:List (GEst×Nat)):Hp:=fun nm=>
 if 1000<=nm/\nm%1000=q then (ps[nm/1000-1]?).map fun p=>⟨p.2,E,5,p.1.claims.length,ar aA p.1.claims⟩ else none
theorem bk {q:Nat} {E:TypeId} {ps:List (GEst×Nat)} {i:Nat} {p:GEst×Nat} (hq:q<1000) (h:ps[i]? =some p):tbl q E ps (1000*(i+1)+q)=some ⟨p.2,E,5,p.1.claims.length,ar aA p.1.claims⟩:=by
 have h1:(1000*(i+1)+q)/1000-1=i:=by omega
 unfold tbl;rw [if_pos (by omega),h1,h];rfl
theorem xn {q:Nat} {E:TypeId} {ps:List (GEst×Nat)} {nm:Nat} (h:nm<1000):tbl q E ps nm=none:=if_neg (by omega)
theorem bD {q:Nat} {E:TypeId} {ps:List (GEst×Nat)} {nm:Nat} {B:Blk} (h:tbl q E ps nm=some B):∃i p,nm=1000*(i+1)+q/\ps[i]? =some p/\B=⟨p.2,E,5,p.1.claims.length,ar aA p.1.claims⟩:=by
 unfold tbl at h;split at h
 ·rename_i h1;obtain ⟨p,h2,rfl⟩:=Option.map_eq_some_iff.1 h;exact ⟨nm/1000-1,p,by omega,h2,rfl⟩
 cases h
theorem bR {q:Nat} {E:TypeId} {ps:List (GEst×Nat)} {H:Hp} (h:∀i p,ps[i]? =some p->H (1000*(i+1)+q)=some ⟨p.2,E,5,p.1.claims.length,ar aA p.1.claims⟩) (m:List Nat):∀x B,tbl q E ps x=some B->fI m x=true∨H x=some B:=by
 intro x B hx;obtain ⟨i,p,rfl,h1,rfl⟩:=bD hx;exact .inr (h i p h1)
def cg (f:Nat->GEst×Nat->C):List (GEst×Nat)->Nat->List C
 |[],_=>[]
 |p::l,i=>[.lit (.bool p.1.cash.neg),.lit (.string p.1.cash.num),.lit (.string p.1.cash.den),f i p,.lit (.slice none 0 0)]++cg f l (i+1)
def aR (q:Nat) (i:Nat) (p:GEst×Nat):C:= .own (1000*(i+1)+q) p.2 p.1.claims.length 5
def fSh (_:Nat) (p:GEst×Nat):C:= .sh 5 p.1.claims.length (ar aA p.1.claims)
def e6 (_:Nat) (_:GEst×Nat):C:= .lit (.slice none 0 0)
theorem co (f:Nat->GEst×Nat->C):∀(l:List (GEst×Nat)) (i:Nat),(cg f l i).length=l.length*5
 |[],_=>rfl
 |p::l,i=>by simp only [cg,List.length_append,List.length_cons,List.length_nil,co f l];omega
theorem fK (f:Nat->GEst×Nat->C):∀(l m:List (GEst×Nat)) (i:Nat),cg f (l++m) i=cg f l i++cg f m (i+l.length)
 |[],m,i=>by simp [cg]
 |p::l,m,i=>by
  simp only [List.cons_append,cg,fK f l m (i+1),List.length_cons,List.append_assoc];rw [Nat.add_assoc,Nat.add_comm 1]
theorem fF {f g:Nat->GEst×Nat->C}:∀(l:List (GEst×Nat)) (i:Nat),(∀j p,l[j]? =some p->f (i+j) p=g (i+j) p)->cg f l i=cg g l i
 |[],_,_=>rfl
 |p::l,i,h=>by
  have h0:=h 0 p rfl;have h1:=fF (f:=f) (g:=g) l (i+1) fun j p hj=>by
   have:=h (j+1) p (by simpa using hj);rwa [Nat.add_assoc,Nat.add_comm 1]
  simp only [Nat.add_zero] at h0;simp only [cg,h0,h1]
theorem i9 (f:Nat->GEst×Nat->C) (l:List (GEst×Nat)) (j:Nat) (p:GEst×Nat) (h:l[j]? =some p):
  cg f l 0=cg f (l.take j) 0++([.lit (.bool p.1.cash.neg),.lit (.string p.1.cash.num),.lit (.string p.1.cash.den),f j p,.lit (.slice none 0 0)]++cg f (l.drop (j+1)) (j+1)):=by
 have hlt:j<l.length:=(List.getElem?_eq_some_iff.1 h).1;have hp:l[j]=p:=(List.getElem?_eq_some_iff.1 h).2;conv=>lhs;rw [←List.take_append_drop j l,fK]
 rw [List.drop_eq_getElem_cons hlt,hp];have:(l.take j).length=j:=by rw [List.length_take];omega
 rw [this,Nat.zero_add];rfl
theorem mP (f:Nat->GEst×Nat->C) (l:List (GEst×Nat)) (j:Nat) (h:j<l.length):(cg f (l.take j) 0).length=j*5:=by
 rw [co,List.length_take];congr 1;omega
theorem xo (f:Nat->GEst×Nat->C) (l:List (GEst×Nat)) (j:Nat) (p:GEst×Nat) (h:l[j]? =some p):
  (cg f l 0).drop (j*5)=[.lit (.bool p.1.cash.neg),.lit (.string p.1.cash.num),.lit (.string p.1.cash.den),f j p,.lit (.slice none 0 0)]++cg f (l.drop (j+1)) (j+1):=by
 have hlt:j<l.length:=(List.getElem?_eq_some_iff.1 h).1;rw [i9 f l j p h,←mP f l j hlt,List.drop_left]
theorem vk (f:Nat->GEst×Nat->C) (l:List (GEst×Nat)) (j:Nat) (p:GEst×Nat) (h:l[j]? =some p):
  (cg f l 0).drop (j*5+3)=f j p:: .lit (.slice none 0 0)::cg f (l.drop (j+1)) (j+1):=by
 rw [←List.drop_drop,xo f l j p h];rfl
theorem jW (f:Nat->GEst×Nat->C) (l:List (GEst×Nat)) (j:Nat) (p:GEst×Nat) (h:l[j]? =some p):(cg f l 0)[j*5+3]? =some (f j p):=by
 rw [←List.head?_drop,vk f l j p h];rfl
theorem cx (f g:Nat->GEst×Nat->C) (l:List (GEst×Nat)) (j:Nat) (p p':GEst×Nat) (h:l[j]? =some p) (hc:p'.1.cash=p.1.cash) (hg:∀i q,i≠j->l[i]? =some q->f i q=g i q):
  (cg f l 0).set (j*5+3) (g j p')=cg g (l.set j p') 0:=by
 have hlt:j<l.length:=(List.getElem?_eq_some_iff.1 h).1;have h':(l.set j p')[j]? =some p':=by simp [hlt]
 have e1:(l.set j p').take j=l.take j:=by rw [List.take_set];exact List.set_eq_of_length_le (by rw [List.length_take];omega)
 have e2:(l.set j p').drop (j+1)=l.drop (j+1):=by rw [List.drop_set];simp
 rw [i9 f l j p h,i9 g (l.set j p') j p' h',e1,e2,hc];have t:=mP f l j hlt;rw [List.set_append_right _ _ (by omega),t];have:j*5+3-j*5=3:=by omega
 rw [this];congr 1
 ·refine fF _ _ fun i q hq=>?_
  have hi:i<j:=by
   have:=(List.getElem?_eq_some_iff.1 hq).1;rw [List.length_take] at this;omega
  rw [List.getElem?_take_of_lt hi] at hq;have:=hg i q (by omega) hq;simpa using this
 simp only [List.cons_append,List.nil_append,List.set_cons_succ,List.set_cons_zero];congr 5;refine fF _ _ fun i q hq=>?_
 rw [List.getElem?_drop] at hq;exact hg _ q (by omega) hq
theorem bY (cs:List C) (off:Nat) (c:C) (h:off<cs.length):spl cs off [c]=cs.set off c:=by
 induction cs generalizing off with
 |nil=>simp at h
 |cons d cs ih=>
  cases off with
  |zero=>rw [jQ,nI];rfl
  |succ n=>rw [lC,ih n (by simpa using h)];rfl
def ia (sel:Nat->Bool) (q:Nat) (E:TypeId) (ps:List (GEst×Nat)):Hp:=fun nm=>if sel (nm/1000-1) then tbl q E ps nm else none
theorem pu (q:Nat) (E:TypeId) (ps:List (GEst×Nat)) (sel:Nat->Bool) (h:∀i,i<ps.length->sel i=true):ia sel q E ps=tbl q E ps:=by
 funext nm;unfold ia;split
 ·rfl
 rename_i h1;cases hx:tbl q E ps nm with
 |none=>rfl
 |some B=>
  obtain ⟨i,p,rfl,h2,_⟩:=bD hx;have h3:=h i (List.getElem?_eq_some_iff.1 h2).1;have:(1000*(i+1)+q)/1000-1=i+q/1000:=by omega
  have hq:q<1000:=by
   unfold tbl at hx;split at hx
   ·rename_i h4;omega
   cases hx
  rw [this,Nat.div_eq_of_lt hq] at h1;exact absurd h3 h1
theorem mQ (q:Nat) (E:TypeId) (ps:List (GEst×Nat)) (sel:Nat->Bool) (h:∀i,i<ps.length->sel i=false):ia sel q E ps=fun _=>none:=by
 funext nm;unfold ia;split
 ·rename_i h1;cases hx:tbl q E ps nm with
  |none=>rfl
  |some B=>
   obtain ⟨i,p,rfl,h2,_⟩:=bD hx;have h3:=h i (List.getElem?_eq_some_iff.1 h2).1;have:(1000*(i+1)+q)/1000-1=i+q/1000:=by omega
   have hq:q<1000:=by
    unfold tbl at hx;split at hx
    ·rename_i h4;omega
    cases hx
   rw [this,Nat.div_eq_of_lt hq,Nat.add_zero,h3] at h1;cases h1
 rfl
theorem fq {H:Hp} {nm:Nat} (hn:1000<=nm):∀{m:List (Nat×Blk)},(∀p∈m,p.1<1000)->bW H m nm=H nm
 |[],_=>rfl
 |p::m,h=>by
  have h1:=h p (by simp);rw [bW.eq_2,ck _ _ (by omega)];exact fq hn fun x hx=>h x (by simp [hx])
theorem jB {H H':Hp} {nm:Nat} (hh:H nm=H' nm):∀{m:List (Nat×Blk)},bW H m nm=bW H' m nm
 |[]=>hh
 |p::m=>by
  rw [bW.eq_2,bW.eq_2,aj,aj,jB hh]
section
variable {P : Program} {e : En} {k0 : Kx} {N : Nat} {tm : Nat → AV} {nb s : Nat} {Q : Exit → St → Prop} {c : Code}
def dw (j:Nat) (f g:Nat->GEst×Nat->C):Nat->GEst×Nat->C:=fun i p=>if i<j then f i p else g i p
theorem vl (q : Nat) (E E2 : TypeId) (hq : q < 1000) (nm2 : Nat) (m : List (Nat × Blk)) (hm : ∀ p ∈ m, p.1 < 1000) (hnm2 : nm2 < 1000) (n nx j : Nat) (ps : List (GEst × Nat)) (p : GEst × Nat) (hp : ps[j]? = some p) (hst : p.2 = nx) (hcl : p.1.claims = []) :
    Wk e k0 N ⟨tm, bW (ia (fun i => decide (i < j)) q E ps) ((nm2, ⟨s, E2, 5, n, cg (dw j (aR q) e6) ps 0⟩) :: m), nx, nb⟩
      ⟨tm, bW (ia (fun i => decide (i < j + 1)) q E ps) ((nm2, ⟨s, E2, 5, n, cg (dw (j + 1) (aR q) e6) ps 0⟩) :: m), nx + 1, nb⟩ := by
  intro a w hr
  have hlt : j < ps.length := (List.getElem?_eq_some_iff.1 hp).1
  have hpj : ps[j] = p := (List.getElem?_eq_some_iff.1 hp).2
  have h1 := jr (nm := nm2) (off := j * 5 + 3) (d := 1000 * (j + 1) + q) (B := ⟨s, E2, 5, n, cg (dw j (aR q) e6) ps 0⟩) E 5 (by decide) (by
      show bW _ _ _ = _
      rw [bW.eq_2, bB]) (by omega) (by show (5 : Nat) ≠ 0; decide)
    (by rw [jW _ _ _ _ hp]; simp [dw, e6]) hr
  have hset : (cg (dw j (aR q) e6) ps 0).set (j * 5 + 3) (.own (1000 * (j + 1) + q) nx 0 5) = cg (dw (j + 1) (aR q) e6) ps 0 := by
    have h2 := cx (dw j (aR q) e6) (dw (j + 1) (aR q) e6) ps j p p hp rfl (fun i x hi _ => by
      unfold dw
      by_cases h : i < j
      · rw [if_pos h, if_pos (by omega)]
      rw [if_neg h, if_neg (by omega)])
    have h3 : dw (j + 1) (aR q) e6 j p = .own (1000 * (j + 1) + q) nx 0 5 := by simp [dw, aR, hst, hcl]
    rw [h3] at h2
    rw [h2]
    congr 1
    exact List.set_getElem_self hlt |> fun h => by rw [← hpj]; exact h
  rw [hset] at h1
  refine gT _ _ (fun t => .inl rfl) (fun nm B hB => ?_) h1
  show up (up _ _ _) nm2 _ nm = some B
  rw [bW.eq_2, aj] at hB
  rw [aj]
  split
  · rename_i h; rw [if_pos h] at hB; exact hB
  rename_i h
  rw [if_neg h] at hB
  rw [aj]
  split
  · rename_i h4
    subst h4
    rw [fq (by omega) hm] at hB
    unfold ia at hB
    split at hB
    · rw [bk hq hp, hst, hcl] at hB; exact hB
    cases hB
  rename_i h4
  show bW _ _ _ = _
  rw [bW.eq_2, ck _ _ h]
  rw [← hB]
  refine jB ?_
  unfold ia
  cases hx : tbl q E ps nm with
  | none => split <;> split <;> rfl
  | some B' =>
    obtain ⟨i, p', rfl, h2, _⟩ := bD hx
    have e1 : (1000 * (i + 1) + q) / 1000 - 1 = i := by omega
    rw [e1]
    have hij : i ≠ j := fun e => h4 (by rw [e])
    by_cases hi : i < j
    · simp [hi, Nat.lt_succ_of_lt hi]
    have : ¬ i < j + 1 := by omega
    simp [hi, this]
theorem xp (q : Nat) (E E2 : TypeId) (hq : q < 1000) (nm2 : Nat) (m : List (Nat × Blk)) (hm : ∀ p ∈ m, p.1 < 1000) (hnm2 : nm2 < 1000) (n nx : Nat) (ps : List (GEst × Nat)) (h : ∀ (j : Nat) p, ps[j]? = some p → p.2 = nx + j ∧ p.1.claims = []) :
    Wk e k0 N ⟨tm, bW (fun _ => none) ((nm2, ⟨s, E2, 5, n, cg e6 ps 0⟩) :: m), nx, nb⟩ ⟨tm, bW (tbl q E ps) ((nm2, ⟨s, E2, 5, n, cg (aR q) ps 0⟩) :: m), nx + ps.length, nb⟩ := by
  have key : ∀ j, j ≤ ps.length → Wk e k0 N ⟨tm, bW (ia (fun i => decide (i < 0)) q E ps) ((nm2, ⟨s, E2, 5, n, cg (dw 0 (aR q) e6) ps 0⟩) :: m), nx, nb⟩
      ⟨tm, bW (ia (fun i => decide (i < j)) q E ps) ((nm2, ⟨s, E2, 5, n, cg (dw j (aR q) e6) ps 0⟩) :: m), nx + j, nb⟩ := by
    intro j
    induction j with
    | zero => intro _; exact Wk.refl _
    | succ j ih =>
      intro hj
      have h1 := h j _ (List.getElem?_eq_getElem (by omega))
      exact Wk.trans (ih (by omega)) (vl q E E2 hq nm2 m hm hnm2 n (nx + j) j ps _ (List.getElem?_eq_getElem (by omega)) h1.1 h1.2)
  have h1 := key ps.length (Nat.le_refl _)
  rw [mQ q E ps _ (fun i _ => by simp), pu q E ps _ (fun i hi => by simp [hi]),
    fF (f := dw 0 (aR q) e6) (g := e6) ps 0 (fun i p _ => by simp [dw]),
    fF (f := dw ps.length (aR q) e6) (g := aR q) ps 0 (fun i p hi => by have := (List.getElem?_eq_some_iff.1 hi).1; simp [dw, this])] at h1
  exact h1
end
end Go.Proofs.YtcgpghifhehlhaaGreatDoor
