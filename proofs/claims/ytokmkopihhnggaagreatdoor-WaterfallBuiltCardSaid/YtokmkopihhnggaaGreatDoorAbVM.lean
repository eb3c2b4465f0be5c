/- Tiers whose parts are rows of the call's own. No program in sight. -/
import Derived.Test.YtokmkopihhnggaaGreatDoorPl3M
set_option linter.unusedVariables false
set_option linter.unusedSimpArgs false
set_option linter.unusedSectionVars false
namespace Go.Proofs.YtokmkopihhnggaaGreatDoor
open Go Go.RowKit
noncomputable def ji (q:Nat) (E:TypeId) (ps:List (WT×Nat)):Hp:=fun nm=>
 if 1000<=nm/\nm%1000=q then (ps[nm/1000-1]?).map fun p=>⟨p.2,E,4,p.1.length,ar cWP p.1⟩ else none
theorem lA {q:Nat} {E:TypeId} {ps:List (WT×Nat)} {i:Nat} {p:WT×Nat} (hq:q<1000) (h:ps[i]? =some p):ji q E ps (1000*(i+1)+q)=some ⟨p.2,E,4,p.1.length,ar cWP p.1⟩:=by
 have h1:(1000*(i+1)+q)/1000-1=i:=by omega
 unfold ji;rw [if_pos (by omega),h1,h];rfl
theorem gU {q:Nat} {E:TypeId} {ps:List (WT×Nat)} {nm:Nat} {B:Blk} (h:ji q E ps nm=some B):∃i p,nm=1000*(i+1)+q/\ps[i]? =some p/\B=⟨p.2,E,4,p.1.length,ar cWP p.1⟩:=by
 unfold ji at h;split at h
 ·rename_i h1;obtain ⟨p,h2,rfl⟩:=Option.map_eq_some_iff.1 h;exact ⟨nm/1000-1,p,by omega,h2,rfl⟩
 cases h
theorem qR {q:Nat} {E:TypeId} {ps:List (WT×Nat)} {H:Hp} (h:∀i p,ps[i]? =some p->H (1000*(i+1)+q)=some ⟨p.2,E,4,p.1.length,ar cWP p.1⟩) (m:List Nat):∀x B,ji q E ps x=some B->fM m x=true∨H x=some B:=by
 intro x B hx;obtain ⟨i,p,rfl,h1,rfl⟩:=gU hx;exact .inr (h i p h1)
noncomputable def bQ (f:Nat->WT×Nat->C):List (WT×Nat)->Nat->List C
 |[],_=>[]
 |p::l,i=>(f i p::ai (enc (au p.1)))++bQ f l (i+1)
noncomputable def cj (q:Nat) (i:Nat) (p:WT×Nat):C:= .own (1000*(i+1)+q) p.2 p.1.length 4
noncomputable def lJ (_:Nat) (p:WT×Nat):C:= .sh 4 p.1.length (ar cWP p.1)
def go (_:Nat) (_:WT×Nat):C:= .lit (.slice none 0 0)
theorem lB (f:Nat->WT×Nat->C):∀(l:List (WT×Nat)) (i:Nat),(bQ f l i).length=l.length*4
 |[],_=>rfl
 |p::l,i=>by simp only [bQ,ai,List.length_append,List.length_cons,List.length_nil,lB f l];omega
theorem m7 (f:Nat->WT×Nat->C):∀(l m:List (WT×Nat)) (i:Nat),bQ f (l++m) i=bQ f l i++bQ f m (i+l.length)
 |[],m,i=>by simp [bQ]
 |p::l,m,i=>by
  simp only [List.cons_append,bQ,m7 f l m (i+1),List.length_cons,List.append_assoc];rw [Nat.add_assoc,Nat.add_comm 1]
theorem eI {f g:Nat->WT×Nat->C}:∀(l:List (WT×Nat)) (i:Nat),(∀j p,l[j]? =some p->f (i+j) p=g (i+j) p)->bQ f l i=bQ g l i
 |[],_,_=>rfl
 |p::l,i,h=>by
  have h0:=h 0 p rfl;have h1:=eI (f:=f) (g:=g) l (i+1) fun j p hj=>by
   have:=h (j+1) p (by simpa using hj);rwa [Nat.add_assoc,Nat.add_comm 1]
  simp only [Nat.add_zero] at h0;simp only [bQ,h0,h1]
theorem iJ (f:Nat->WT×Nat->C) (l:List (WT×Nat)) (j:Nat) (p:WT×Nat) (h:l[j]? =some p):
  bQ f l 0=bQ f (l.take j) 0++((f j p::ai (enc (au p.1)))++bQ f (l.drop (j+1)) (j+1)):=by
 have hlt:j<l.length:=(List.getElem?_eq_some_iff.1 h).1;have hp:l[j]=p:=(List.getElem?_eq_some_iff.1 h).2;conv=>lhs;rw [←List.take_append_drop j l,m7]
 rw [List.drop_eq_getElem_cons hlt,hp];have:(l.take j).length=j:=by rw [List.length_take];omega
 rw [this,Nat.zero_add];rfl
theorem qS (f:Nat->WT×Nat->C) (l:List (WT×Nat)) (j:Nat) (h:j<l.length):(bQ f (l.take j) 0).length=j*4:=by
 rw [lB,List.length_take];congr 1;omega
theorem EM (f:Nat->WT×Nat->C) (l:List (WT×Nat)) (j:Nat) (p:WT×Nat) (h:l[j]? =some p):
  (bQ f l 0).drop (j*4)=(f j p::ai (enc (au p.1)))++bQ f (l.drop (j+1)) (j+1):=by
 have hlt:j<l.length:=(List.getElem?_eq_some_iff.1 h).1;rw [iJ f l j p h,←qS f l j hlt,List.drop_left]
theorem qT (f:Nat->WT×Nat->C) (l:List (WT×Nat)) (j:Nat) (p:WT×Nat) (h:l[j]? =some p):(bQ f l 0)[j*4]? =some (f j p):=by
 rw [←List.head?_drop,EM f l j p h];rfl
theorem qU (f g:Nat->WT×Nat->C) (l:List (WT×Nat)) (j:Nat) (p p':WT×Nat) (h:l[j]? =some p) (hc:au p'.1=au p.1) (hg:∀i q,i≠j->l[i]? =some q->f i q=g i q):
  (bQ f l 0).set (j*4) (g j p')=bQ g (l.set j p') 0:=by
 have hlt:j<l.length:=(List.getElem?_eq_some_iff.1 h).1;have h':(l.set j p')[j]? =some p':=by simp [hlt]
 have e1:(l.set j p').take j=l.take j:=by rw [List.take_set];exact List.set_eq_of_length_le (by rw [List.length_take];omega)
 have e2:(l.set j p').drop (j+1)=l.drop (j+1):=by rw [List.drop_set];simp
 rw [iJ f l j p h,iJ g (l.set j p') j p' h',e1,e2,hc];have t:=qS f l j hlt;rw [List.set_append_right _ _ (by omega),t];rw [Nat.sub_self];congr 1
 ·refine eI _ _ fun i q hq=>?_
  have hi:i<j:=by
   have:=(List.getElem?_eq_some_iff.1 hq).1;rw [List.length_take] at this;omega
  rw [List.getElem?_take_of_lt hi] at hq;have:=hg i q (by omega) hq;simpa using this
 simp only [List.cons_append,List.set_cons_zero];congr 2;refine eI _ _ fun i q hq=>?_
 rw [List.getElem?_drop] at hq;exact hg _ q (by omega) hq
noncomputable def gv (sel:Nat->Bool) (q:Nat) (E:TypeId) (ps:List (WT×Nat)):Hp:=fun nm=>if sel (nm/1000-1) then ji q E ps nm else none
theorem tj (q:Nat) (E:TypeId) (ps:List (WT×Nat)) (sel:Nat->Bool) (h:∀i,i<ps.length->sel i=true):gv sel q E ps=ji q E ps:=by
 funext nm;unfold gv;split
 ·rfl
 rename_i h1;cases hx:ji q E ps nm with
 |none=>rfl
 |some B=>
  obtain ⟨i,p,rfl,h2,_⟩:=gU hx;have h3:=h i (List.getElem?_eq_some_iff.1 h2).1;have:(1000*(i+1)+q)/1000-1=i+q/1000:=by omega
  have hq:q<1000:=by
   unfold ji at hx;split at hx
   ·rename_i h4;omega
   cases hx
  rw [this,Nat.div_eq_of_lt hq] at h1;exact absurd h3 h1
theorem qV (q:Nat) (E:TypeId) (ps:List (WT×Nat)) (sel:Nat->Bool) (h:∀i,i<ps.length->sel i=false):gv sel q E ps=fun _=>none:=by
 funext nm;unfold gv;split
 ·rename_i h1;cases hx:ji q E ps nm with
  |none=>rfl
  |some B=>
   obtain ⟨i,p,rfl,h2,_⟩:=gU hx;have h3:=h i (List.getElem?_eq_some_iff.1 h2).1;have:(1000*(i+1)+q)/1000-1=i+q/1000:=by omega
   have hq:q<1000:=by
    unfold ji at hx;split at hx
    ·rename_i h4;omega
    cases hx
   rw [this,Nat.div_eq_of_lt hq,Nat.add_zero,h3] at h1;cases h1
 rfl
section
variable {P : Program} {e : En} {k0 : Kx} {N : Nat} {tm : Nat → AV} {nb s : Nat} {Q : Exit → St → Prop} {c : Code}
def cR (j:Nat) (f g:Nat->WT×Nat->C):Nat->WT×Nat->C:=fun i p=>if i<j then f i p else g i p
theorem Cp (q : Nat) (E E2 : TypeId) (hq : q < 1000) (nm2 : Nat) (m : List (Nat × Blk)) (hm : ∀ p ∈ m, p.1 < 1000) (hnm2 : nm2 < 1000) (n nx j : Nat) (ps : List (WT × Nat)) (p : WT × Nat) (hp : ps[j]? = some p) (hst : p.2 = nx) (hcl : p.1 = []) :
    Wk e k0 N ⟨tm, bC (gv (fun i => decide (i < j)) q E ps) ((nm2, ⟨s, E2, 4, n, bQ (cR j (cj q) go) ps 0⟩) :: m), nx, nb⟩
      ⟨tm, bC (gv (fun i => decide (i < j + 1)) q E ps) ((nm2, ⟨s, E2, 4, n, bQ (cR (j + 1) (cj q) go) ps 0⟩) :: m), nx + 1, nb⟩ := by
  intro a w hr
  have hlt : j < ps.length := (List.getElem?_eq_some_iff.1 hp).1
  have hpj : ps[j] = p := (List.getElem?_eq_some_iff.1 hp).2
  have h1 := jB (nm := nm2) (off := j * 4) (d := 1000 * (j + 1) + q) (B := ⟨s, E2, 4, n, bQ (cR j (cj q) go) ps 0⟩) E 4 (by decide) (by
      show bC _ _ _ = _
      rw [bC.eq_2, bO]) (by omega) (by show (4 : Nat) ≠ 0; decide)
    (by rw [qT _ _ _ _ hp]; simp [cR, go]) hr
  have hset : (bQ (cR j (cj q) go) ps 0).set (j * 4) (.own (1000 * (j + 1) + q) nx 0 4) = bQ (cR (j + 1) (cj q) go) ps 0 := by
    have h2 := qU (cR j (cj q) go) (cR (j + 1) (cj q) go) ps j p p hp rfl (fun i x hi _ => by
      unfold cR
      by_cases h : i < j
      · rw [if_pos h, if_pos (by omega)]
      rw [if_neg h, if_neg (by omega)])
    have h3 : cR (j + 1) (cj q) go j p = .own (1000 * (j + 1) + q) nx 0 4 := by simp [cR, cj, hst, hcl]
    rw [h3] at h2
    rw [h2]
    congr 1
    exact List.set_getElem_self hlt |> fun h => by rw [← hpj]; exact h
  rw [hset] at h1
  refine ij _ _ (fun t => .inl rfl) (fun nm B hB => ?_) h1
  show up (up _ _ _) nm2 _ nm = some B
  rw [bC.eq_2, ap] at hB
  rw [ap]
  split
  · rename_i h; rw [if_pos h] at hB; exact hB
  rename_i h
  rw [if_neg h] at hB
  rw [ap]
  split
  · rename_i h4
    subst h4
    rw [f6 (by omega) hm] at hB
    unfold gv at hB
    split at hB
    · rw [lA hq hp, hst, hcl] at hB; exact hB
    cases hB
  rename_i h4
  show bC _ _ _ = _
  rw [bC.eq_2, cv _ _ h]
  rw [← hB]
  refine kz ?_
  unfold gv
  cases hx : ji q E ps nm with
  | none => split <;> split <;> rfl
  | some B' =>
    obtain ⟨i, p', rfl, h2, _⟩ := gU hx
    have e1 : (1000 * (i + 1) + q) / 1000 - 1 = i := by omega
    rw [e1]
    have hij : i ≠ j := fun e => h4 (by rw [e])
    by_cases hi : i < j
    · simp [hi, Nat.lt_succ_of_lt hi]
    have : ¬ i < j + 1 := by omega
    simp [hi, this]
theorem Cq (q : Nat) (E E2 : TypeId) (hq : q < 1000) (nm2 : Nat) (m : List (Nat × Blk)) (hm : ∀ p ∈ m, p.1 < 1000) (hnm2 : nm2 < 1000) (n nx j : Nat) (ps : List (WT × Nat)) (p : WT × Nat) (hp : ps[j]? = some p) :
    Wk e k0 N ⟨tm, bC (gv (fun i => decide (j ≤ i)) q E ps) ((nm2, ⟨s, E2, 4, n, bQ (cR j lJ (cj q)) ps 0⟩) :: m), nx, nb⟩
      ⟨tm, bC (gv (fun i => decide (j + 1 ≤ i)) q E ps) ((nm2, ⟨s, E2, 4, n, bQ (cR (j + 1) lJ (cj q)) ps 0⟩) :: m), nx, nb⟩ := by
  intro a w hr
  have hlt : j < ps.length := (List.getElem?_eq_some_iff.1 hp).1
  have hpj : ps[j] = p := (List.getElem?_eq_some_iff.1 hp).2
  have e0 : (1000 * (j + 1) + q) / 1000 - 1 = j := by omega
  have h1 := jD (nm := 1000 * (j + 1) + q) (nm2 := nm2) (off := j * 4) (s := p.2) (n := p.1.length) (sz := 4) (B := ⟨p.2, E, 4, p.1.length, ar cWP p.1⟩) (B2 := ⟨s, E2, 4, n, bQ (cR j lJ (cj q)) ps 0⟩)
    (by show bC _ _ _ = _
        rw [bC.eq_2, cv _ _ (by omega), f6 (by omega) hm]
        unfold gv
        rw [e0, if_pos (by simp)]; exact lA hq hp)
    (by show bC _ _ _ = _
        rw [bC.eq_2, bO]) (by omega) (by show (4 : Nat) ≠ 0; decide) (by show (4 : Nat) ≠ 0; decide) rfl
    (by rw [qT _ _ _ _ hp]; simp [cR, cj]) hr
  have hset : (bQ (cR j lJ (cj q)) ps 0).set (j * 4) (.sh 4 p.1.length (ar cWP p.1)) = bQ (cR (j + 1) lJ (cj q)) ps 0 := by
    have h2 := qU (cR j lJ (cj q)) (cR (j + 1) lJ (cj q)) ps j p p hp rfl (fun i x hi _ => by
      unfold cR
      by_cases h : i < j
      · rw [if_pos h, if_pos (by omega)]
      rw [if_neg h, if_neg (by omega)])
    have h3 : cR (j + 1) lJ (cj q) j p = .sh 4 p.1.length (ar cWP p.1) := by simp [cR, lJ]
    rw [h3] at h2
    rw [h2]
    congr 1
    exact List.set_getElem_self hlt |> fun h => by rw [← hpj]; exact h
  simp only [] at h1
  rw [hset] at h1
  refine ij _ _ (fun t => .inl rfl) (fun nm B hB => ?_) h1
  show up (up _ _ _) nm2 _ nm = some B
  rw [bC.eq_2, ap] at hB
  rw [ap]
  split
  · rename_i h; rw [if_pos h] at hB; exact hB
  rename_i h
  rw [if_neg h] at hB
  rw [ap]
  split
  · rename_i h4
    subst h4
    rw [f6 (by omega) hm] at hB
    unfold gv at hB
    rw [e0, if_neg (by simp)] at hB
    cases hB
  rename_i h4
  show bC _ _ _ = _
  rw [bC.eq_2, cv _ _ h]
  rw [← hB]
  refine kz ?_
  unfold gv
  cases hx : ji q E ps nm with
  | none => split <;> split <;> rfl
  | some B' =>
    obtain ⟨i, p', rfl, h2, _⟩ := gU hx
    have e1 : (1000 * (i + 1) + q) / 1000 - 1 = i := by omega
    rw [e1]
    have hij : i ≠ j := fun e => h4 (by rw [e])
    by_cases hi : j ≤ i
    · have : j + 1 ≤ i := by omega
      simp [hi, this]
    have : ¬ j + 1 ≤ i := by omega
    simp [hi, this]
theorem EN (q : Nat) (E E2 : TypeId) (hq : q < 1000) (nm2 : Nat) (m : List (Nat × Blk)) (hm : ∀ p ∈ m, p.1 < 1000) (hnm2 : nm2 < 1000) (n nx : Nat) (ps : List (WT × Nat)) (h : ∀ (j : Nat) p, ps[j]? = some p → p.2 = nx + j ∧ p.1 = []) :
    Wk e k0 N ⟨tm, bC (fun _ => none) ((nm2, ⟨s, E2, 4, n, bQ go ps 0⟩) :: m), nx, nb⟩ ⟨tm, bC (ji q E ps) ((nm2, ⟨s, E2, 4, n, bQ (cj q) ps 0⟩) :: m), nx + ps.length, nb⟩ := by
  have key : ∀ j, j ≤ ps.length → Wk e k0 N ⟨tm, bC (gv (fun i => decide (i < 0)) q E ps) ((nm2, ⟨s, E2, 4, n, bQ (cR 0 (cj q) go) ps 0⟩) :: m), nx, nb⟩
      ⟨tm, bC (gv (fun i => decide (i < j)) q E ps) ((nm2, ⟨s, E2, 4, n, bQ (cR j (cj q) go) ps 0⟩) :: m), nx + j, nb⟩ := by
    intro j
    induction j with
    | zero => intro _; exact Wk.refl _
    | succ j ih =>
      intro hj
      have h1 := h j _ (List.getElem?_eq_getElem (by omega))
      exact Wk.trans (ih (by omega)) (Cp q E E2 hq nm2 m hm hnm2 n (nx + j) j ps _ (List.getElem?_eq_getElem (by omega)) h1.1 h1.2)
  have h1 := key ps.length (Nat.le_refl _)
  rw [qV q E ps _ (fun i _ => by simp), tj q E ps _ (fun i hi => by simp [hi]),
    eI (f := cR 0 (cj q) go) (g := go) ps 0 (fun i p _ => by simp [cR]),
    eI (f := cR ps.length (cj q) go) (g := cj q) ps 0 (fun i p hi => by have := (List.getElem?_eq_some_iff.1 hi).1; simp [cR, this])] at h1
  exact h1
theorem EO (q : Nat) (E E2 : TypeId) (hq : q < 1000) (nm2 : Nat) (m : List (Nat × Blk)) (hm : ∀ p ∈ m, p.1 < 1000) (hnm2 : nm2 < 1000) (n nx : Nat) (ps : List (WT × Nat)) :
    Wk e k0 N ⟨tm, bC (ji q E ps) ((nm2, ⟨s, E2, 4, n, bQ (cj q) ps 0⟩) :: m), nx, nb⟩ ⟨tm, bC (fun _ => none) ((nm2, ⟨s, E2, 4, n, bQ lJ ps 0⟩) :: m), nx, nb⟩ := by
  have key : ∀ j, j ≤ ps.length → Wk e k0 N ⟨tm, bC (gv (fun i => decide (0 ≤ i)) q E ps) ((nm2, ⟨s, E2, 4, n, bQ (cR 0 lJ (cj q)) ps 0⟩) :: m), nx, nb⟩
      ⟨tm, bC (gv (fun i => decide (j ≤ i)) q E ps) ((nm2, ⟨s, E2, 4, n, bQ (cR j lJ (cj q)) ps 0⟩) :: m), nx, nb⟩ := by
    intro j
    induction j with
    | zero => intro _; exact Wk.refl _
    | succ j ih =>
      intro hj
      exact Wk.trans (ih (by omega)) (Cq q E E2 hq nm2 m hm hnm2 n nx j ps _ (List.getElem?_eq_getElem (by omega)))
  have h1 := key ps.length (Nat.le_refl _)
  rw [tj q E ps (fun i => decide (0 ≤ i)) (fun i _ => by simp), qV q E ps (fun i => decide (ps.length ≤ i)) (fun i hi => by simp; omega),
    eI (f := cR 0 lJ (cj q)) (g := cj q) ps 0 (fun i p _ => by simp [cR]),
    eI (f := cR ps.length lJ (cj q)) (g := lJ) ps 0 (fun i p hi => by have := (List.getElem?_eq_some_iff.1 hi).1; simp [cR, this])] at h1
  exact h1
end
end Go.Proofs.YtokmkopihhnggaaGreatDoor
