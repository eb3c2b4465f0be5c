/- Tiers whose parts are rows of the call's own. No program in sight. -/
import Derived.Test.YtokmkopihhnggaaGreatDoorLGCM
set_option linter.unusedVariables false
set_option linter.unusedSimpArgs false
set_option linter.unusedSectionVars false
namespace Go.Proofs.YtokmkopihhnggaaGreatDoor
open Go Go.RowKit
noncomputable def iB (q:Nat) (E:TypeId) (ps:List (WT×Nat)):Hp:=fun nm=>
 if 1000<=nm/\nm%1000=q then (ps[nm/1000-1]?).map fun p=>⟨p.2,E,4,p.1.length,aA cWP p.1⟩ else none
theorem kr {q:Nat} {E:TypeId} {ps:List (WT×Nat)} {i:Nat} {p:WT×Nat} (hq:q<1000) (h:ps[i]? =some p):iB q E ps (1000*(i+1)+q)=some ⟨p.2,E,4,p.1.length,aA cWP p.1⟩:=by
 have h1:(1000*(i+1)+q)/1000-1=i:=by omega
 unfold iB;rw [if_pos (by omega),h1,h];rfl
theorem gk {q:Nat} {E:TypeId} {ps:List (WT×Nat)} {nm:Nat} {B:Blk} (h:iB q E ps nm=some B):∃i p,nm=1000*(i+1)+q/\ps[i]? =some p/\B=⟨p.2,E,4,p.1.length,aA cWP p.1⟩:=by
 unfold iB at h;split at h
 ·rename_i h1;obtain ⟨p,h2,rfl⟩:=Option.map_eq_some_iff.1 h;exact ⟨nm/1000-1,p,by omega,h2,rfl⟩
 cases h
theorem qh {q:Nat} {E:TypeId} {ps:List (WT×Nat)} {H:Hp} (h:∀i p,ps[i]? =some p->H (1000*(i+1)+q)=some ⟨p.2,E,4,p.1.length,aA cWP p.1⟩) (m:List Nat):∀x B,iB q E ps x=some B->fA m x=true∨H x=some B:=by
 intro x B hx;obtain ⟨i,p,rfl,h1,rfl⟩:=gk hx;exact .inr (h i p h1)
noncomputable def bE (f:Nat->WT×Nat->C):List (WT×Nat)->Nat->List C
 |[],_=>[]
 |p::l,i=>(f i p::ai (enc (av p.1)))++bE f l (i+1)
noncomputable def b6 (q:Nat) (i:Nat) (p:WT×Nat):C:= .own (1000*(i+1)+q) p.2 p.1.length 4
noncomputable def kA (_:Nat) (p:WT×Nat):C:= .sh 4 p.1.length (aA cWP p.1)
def fT (_:Nat) (_:WT×Nat):C:= .lit (.slice none 0 0)
theorem ks (f:Nat->WT×Nat->C):∀(l:List (WT×Nat)) (i:Nat),(bE f l i).length=l.length*4
 |[],_=>rfl
 |p::l,i=>by simp only [bE,ai,List.length_append,List.length_cons,List.length_nil,ks f l];omega
theorem mq (f:Nat->WT×Nat->C):∀(l m:List (WT×Nat)) (i:Nat),bE f (l++m) i=bE f l i++bE f m (i+l.length)
 |[],m,i=>by simp [bE]
 |p::l,m,i=>by
  simp only [List.cons_append,bE,mq f l m (i+1),List.length_cons,List.append_assoc];rw [Nat.add_assoc,Nat.add_comm 1]
theorem ef {f g:Nat->WT×Nat->C}:∀(l:List (WT×Nat)) (i:Nat),(∀j p,l[j]? =some p->f (i+j) p=g (i+j) p)->bE f l i=bE g l i
 |[],_,_=>rfl
 |p::l,i,h=>by
  have h0:=h 0 p rfl;have h1:=ef (f:=f) (g:=g) l (i+1) fun j p hj=>by
   have:=h (j+1) p (by simpa using hj);rwa [Nat.add_assoc,Nat.add_comm 1]
  simp only [Nat.add_zero] at h0;simp only [bE,h0,h1]
theorem gX (f:Nat->WT×Nat->C) (l:List (WT×Nat)) (j:Nat) (p:WT×Nat) (h:l[j]? =some p):
  bE f l 0=bE f (l.take j) 0++((f j p::ai (enc (av p.1)))++bE f (l.drop (j+1)) (j+1)):=by
 have hlt:j<l.length:=(List.getElem?_eq_some_iff.1 h).1;have hp:l[j]=p:=(List.getElem?_eq_some_iff.1 h).2;conv=>lhs;rw [←List.take_append_drop j l,mq]
 rw [List.drop_eq_getElem_cons hlt,hp];have:(l.take j).length=j:=by rw [List.length_take];omega
 rw [this,Nat.zero_add];rfl
theorem qi (f:Nat->WT×Nat->C) (l:List (WT×Nat)) (j:Nat) (h:j<l.length):(bE f (l.take j) 0).length=j*4:=by
 rw [ks,List.length_take];congr 1;omega
theorem Dn (f:Nat->WT×Nat->C) (l:List (WT×Nat)) (j:Nat) (p:WT×Nat) (h:l[j]? =some p):
  (bE f l 0).drop (j*4)=(f j p::ai (enc (av p.1)))++bE f (l.drop (j+1)) (j+1):=by
 have hlt:j<l.length:=(List.getElem?_eq_some_iff.1 h).1;rw [gX f l j p h,←qi f l j hlt,List.drop_left]
theorem qj (f:Nat->WT×Nat->C) (l:List (WT×Nat)) (j:Nat) (p:WT×Nat) (h:l[j]? =some p):(bE f l 0)[j*4]? =some (f j p):=by
 rw [←List.head?_drop,Dn f l j p h];rfl
theorem qk (f g:Nat->WT×Nat->C) (l:List (WT×Nat)) (j:Nat) (p p':WT×Nat) (h:l[j]? =some p) (hc:av p'.1=av p.1) (hg:∀i q,i≠j->l[i]? =some q->f i q=g i q):
  (bE f l 0).set (j*4) (g j p')=bE g (l.set j p') 0:=by
 have hlt:j<l.length:=(List.getElem?_eq_some_iff.1 h).1;have h':(l.set j p')[j]? =some p':=by simp [hlt]
 have e1:(l.set j p').take j=l.take j:=by rw [List.take_set];exact List.set_eq_of_length_le (by rw [List.length_take];omega)
 have e2:(l.set j p').drop (j+1)=l.drop (j+1):=by rw [List.drop_set];simp
 rw [gX f l j p h,gX g (l.set j p') j p' h',e1,e2,hc];have t:=qi f l j hlt;rw [List.set_append_right _ _ (by omega),t];rw [Nat.sub_self];congr 1
 ·refine ef _ _ fun i q hq=>?_
  have hi:i<j:=by
   have:=(List.getElem?_eq_some_iff.1 hq).1;rw [List.length_take] at this;omega
  rw [List.getElem?_take_of_lt hi] at hq;have:=hg i q (by omega) hq;simpa using this
 simp only [List.cons_append,List.set_cons_zero];congr 2;refine ef _ _ fun i q hq=>?_
 rw [List.getElem?_drop] at hq;exact hg _ q (by omega) hq
noncomputable def fU (sel:Nat->Bool) (q:Nat) (E:TypeId) (ps:List (WT×Nat)):Hp:=fun nm=>if sel (nm/1000-1) then iB q E ps nm else none
theorem sm (q:Nat) (E:TypeId) (ps:List (WT×Nat)) (sel:Nat->Bool) (h:∀i,i<ps.length->sel i=true):fU sel q E ps=iB q E ps:=by
 funext nm;unfold fU;split
 ·rfl
 rename_i h1;cases hx:iB q E ps nm with
 |none=>rfl
 |some B=>
  obtain ⟨i,p,rfl,h2,_⟩:=gk hx;have h3:=h i (List.getElem?_eq_some_iff.1 h2).1;have:(1000*(i+1)+q)/1000-1=i+q/1000:=by omega
  have hq:q<1000:=by
   unfold iB at hx;split at hx
   ·rename_i h4;omega
   cases hx
  rw [this,Nat.div_eq_of_lt hq] at h1;exact absurd h3 h1
theorem ql (q:Nat) (E:TypeId) (ps:List (WT×Nat)) (sel:Nat->Bool) (h:∀i,i<ps.length->sel i=false):fU sel q E ps=fun _=>none:=by
 funext nm;unfold fU;split
 ·rename_i h1;cases hx:iB q E ps nm with
  |none=>rfl
  |some B=>
   obtain ⟨i,p,rfl,h2,_⟩:=gk hx;have h3:=h i (List.getElem?_eq_some_iff.1 h2).1;have:(1000*(i+1)+q)/1000-1=i+q/1000:=by omega
   have hq:q<1000:=by
    unfold iB at hx;split at hx
    ·rename_i h4;omega
    cases hx
   rw [this,Nat.div_eq_of_lt hq,Nat.add_zero,h3] at h1;cases h1
 rfl
section
variable {P : Program} {e : En} {k0 : Kx} {N : Nat} {tm : Nat → AV} {nb s : Nat} {Q : Exit → St → Prop} {c : Code}
def cH (j:Nat) (f g:Nat->WT×Nat->C):Nat->WT×Nat->C:=fun i p=>if i<j then f i p else g i p
theorem Bd (q : Nat) (E E2 : TypeId) (hq : q < 1000) (nm2 : Nat) (m : List (Nat × Blk)) (hm : ∀ p ∈ m, p.1 < 1000) (hnm2 : nm2 < 1000) (n nx j : Nat) (ps : List (WT × Nat)) (p : WT × Nat) (hp : ps[j]? = some p) (hst : p.2 = nx) (hcl : p.1 = []) :
    Wk e k0 N ⟨tm, bZ (fU (fun i => decide (i < j)) q E ps) ((nm2, ⟨s, E2, 4, n, bE (cH j (b6 q) fT) ps 0⟩) :: m), nx, nb⟩
      ⟨tm, bZ (fU (fun i => decide (i < j + 1)) q E ps) ((nm2, ⟨s, E2, 4, n, bE (cH (j + 1) (b6 q) fT) ps 0⟩) :: m), nx + 1, nb⟩ := by
  intro a w hr
  have hlt : j < ps.length := (List.getElem?_eq_some_iff.1 hp).1
  have hpj : ps[j] = p := (List.getElem?_eq_some_iff.1 hp).2
  have h1 := lO (nm := nm2) (off := j * 4) (d := 1000 * (j + 1) + q) (B := ⟨s, E2, 4, n, bE (cH j (b6 q) fT) ps 0⟩) E 4 (by decide) (by
      show bZ _ _ _ = _
      rw [bZ.eq_2, bI]) (by omega) (by show (4 : Nat) ≠ 0; decide)
    (by rw [qj _ _ _ _ hp]; simp [cH, fT]) hr
  have hset : (bE (cH j (b6 q) fT) ps 0).set (j * 4) (.own (1000 * (j + 1) + q) nx 0 4) = bE (cH (j + 1) (b6 q) fT) ps 0 := by
    have h2 := qk (cH j (b6 q) fT) (cH (j + 1) (b6 q) fT) ps j p p hp rfl (fun i x hi _ => by
      unfold cH
      by_cases h : i < j
      · rw [if_pos h, if_pos (by omega)]
      rw [if_neg h, if_neg (by omega)])
    have h3 : cH (j + 1) (b6 q) fT j p = .own (1000 * (j + 1) + q) nx 0 4 := by simp [cH, b6, hst, hcl]
    rw [h3] at h2
    rw [h2]
    congr 1
    exact List.set_getElem_self hlt |> fun h => by rw [← hpj]; exact h
  rw [hset] at h1
  refine jq _ _ (fun t => .inl rfl) (fun nm B hB => ?_) h1
  show up (up _ _ _) nm2 _ nm = some B
  rw [bZ.eq_2, aB] at hB
  rw [aB]
  split
  · rename_i h; rw [if_pos h] at hB; exact hB
  rename_i h
  rw [if_neg h] at hB
  rw [aB]
  split
  · rename_i h4
    subst h4
    rw [ki (by omega) hm] at hB
    unfold fU at hB
    split at hB
    · rw [kr hq hp, hst, hcl] at hB; exact hB
    cases hB
  rename_i h4
  show bZ _ _ _ = _
  rw [bZ.eq_2, cA _ _ h]
  rw [← hB]
  refine p7 ?_
  unfold fU
  cases hx : iB q E ps nm with
  | none => split <;> split <;> rfl
  | some B' =>
    obtain ⟨i, p', rfl, h2, _⟩ := gk hx
    have e1 : (1000 * (i + 1) + q) / 1000 - 1 = i := by omega
    rw [e1]
    have hij : i ≠ j := fun e => h4 (by rw [e])
    by_cases hi : i < j
    · simp [hi, Nat.lt_succ_of_lt hi]
    have : ¬ i < j + 1 := by omega
    simp [hi, this]
theorem Be (q : Nat) (E E2 : TypeId) (hq : q < 1000) (nm2 : Nat) (m : List (Nat × Blk)) (hm : ∀ p ∈ m, p.1 < 1000) (hnm2 : nm2 < 1000) (n nx j : Nat) (ps : List (WT × Nat)) (p : WT × Nat) (hp : ps[j]? = some p) :
    Wk e k0 N ⟨tm, bZ (fU (fun i => decide (j ≤ i)) q E ps) ((nm2, ⟨s, E2, 4, n, bE (cH j kA (b6 q)) ps 0⟩) :: m), nx, nb⟩
      ⟨tm, bZ (fU (fun i => decide (j + 1 ≤ i)) q E ps) ((nm2, ⟨s, E2, 4, n, bE (cH (j + 1) kA (b6 q)) ps 0⟩) :: m), nx, nb⟩ := by
  intro a w hr
  have hlt : j < ps.length := (List.getElem?_eq_some_iff.1 hp).1
  have hpj : ps[j] = p := (List.getElem?_eq_some_iff.1 hp).2
  have e0 : (1000 * (j + 1) + q) / 1000 - 1 = j := by omega
  have h1 := mo (nm := 1000 * (j + 1) + q) (nm2 := nm2) (off := j * 4) (s := p.2) (n := p.1.length) (sz := 4) (B := ⟨p.2, E, 4, p.1.length, aA cWP p.1⟩) (B2 := ⟨s, E2, 4, n, bE (cH j kA (b6 q)) ps 0⟩)
    (by show bZ _ _ _ = _
        rw [bZ.eq_2, cA _ _ (by omega), ki (by omega) hm]
        unfold fU
        rw [e0, if_pos (by simp)]; exact kr hq hp)
    (by show bZ _ _ _ = _
        rw [bZ.eq_2, bI]) (by omega) (by show (4 : Nat) ≠ 0; decide) (by show (4 : Nat) ≠ 0; decide) rfl
    (by rw [qj _ _ _ _ hp]; simp [cH, b6]) hr
  have hset : (bE (cH j kA (b6 q)) ps 0).set (j * 4) (.sh 4 p.1.length (aA cWP p.1)) = bE (cH (j + 1) kA (b6 q)) ps 0 := by
    have h2 := qk (cH j kA (b6 q)) (cH (j + 1) kA (b6 q)) ps j p p hp rfl (fun i x hi _ => by
      unfold cH
      by_cases h : i < j
      · rw [if_pos h, if_pos (by omega)]
      rw [if_neg h, if_neg (by omega)])
    have h3 : cH (j + 1) kA (b6 q) j p = .sh 4 p.1.length (aA cWP p.1) := by simp [cH, kA]
    rw [h3] at h2
    rw [h2]
    congr 1
    exact List.set_getElem_self hlt |> fun h => by rw [← hpj]; exact h
  simp only [] at h1
  rw [hset] at h1
  refine jq _ _ (fun t => .inl rfl) (fun nm B hB => ?_) h1
  show up (up _ _ _) nm2 _ nm = some B
  rw [bZ.eq_2, aB] at hB
  rw [aB]
  split
  · rename_i h; rw [if_pos h] at hB; exact hB
  rename_i h
  rw [if_neg h] at hB
  rw [aB]
  split
  · rename_i h4
    subst h4
    rw [ki (by omega) hm] at hB
    unfold fU at hB
    rw [e0, if_neg (by simp)] at hB
    cases hB
  rename_i h4
  show bZ _ _ _ = _
  rw [bZ.eq_2, cA _ _ h]
  rw [← hB]
  refine p7 ?_
  unfold fU
  cases hx : iB q E ps nm with
  | none => split <;> split <;> rfl
  | some B' =>
    obtain ⟨i, p', rfl, h2, _⟩ := gk hx
    have e1 : (1000 * (i + 1) + q) / 1000 - 1 = i := by omega
    rw [e1]
    have hij : i ≠ j := fun e => h4 (by rw [e])
    by_cases hi : j ≤ i
    · have : j + 1 ≤ i := by omega
      simp [hi, this]
    have : ¬ j + 1 ≤ i := by omega
    simp [hi, this]
theorem Do (q : Nat) (E E2 : TypeId) (hq : q < 1000) (nm2 : Nat) (m : List (Nat × Blk)) (hm : ∀ p ∈ m, p.1 < 1000) (hnm2 : nm2 < 1000) (n nx : Nat) (ps : List (WT × Nat)) (h : ∀ (j : Nat) p, ps[j]? = some p → p.2 = nx + j ∧ p.1 = []) :
    Wk e k0 N ⟨tm, bZ (fun _ => none) ((nm2, ⟨s, E2, 4, n, bE fT ps 0⟩) :: m), nx, nb⟩ ⟨tm, bZ (iB q E ps) ((nm2, ⟨s, E2, 4, n, bE (b6 q) ps 0⟩) :: m), nx + ps.length, nb⟩ := by
  have key : ∀ j, j ≤ ps.length → Wk e k0 N ⟨tm, bZ (fU (fun i => decide (i < 0)) q E ps) ((nm2, ⟨s, E2, 4, n, bE (cH 0 (b6 q) fT) ps 0⟩) :: m), nx, nb⟩
      ⟨tm, bZ (fU (fun i => decide (i < j)) q E ps) ((nm2, ⟨s, E2, 4, n, bE (cH j (b6 q) fT) ps 0⟩) :: m), nx + j, nb⟩ := by
    intro j
    induction j with
    | zero => intro _; exact Wk.refl _
    | succ j ih =>
      intro hj
      have h1 := h j _ (List.getElem?_eq_getElem (by omega))
      exact Wk.trans (ih (by omega)) (Bd q E E2 hq nm2 m hm hnm2 n (nx + j) j ps _ (List.getElem?_eq_getElem (by omega)) h1.1 h1.2)
  have h1 := key ps.length (Nat.le_refl _)
  rw [ql q E ps _ (fun i _ => by simp), sm q E ps _ (fun i hi => by simp [hi]),
    ef (f := cH 0 (b6 q) fT) (g := fT) ps 0 (fun i p _ => by simp [cH]),
    ef (f := cH ps.length (b6 q) fT) (g := b6 q) ps 0 (fun i p hi => by have := (List.getElem?_eq_some_iff.1 hi).1; simp [cH, this])] at h1
  exact h1
theorem Dp (q : Nat) (E E2 : TypeId) (hq : q < 1000) (nm2 : Nat) (m : List (Nat × Blk)) (hm : ∀ p ∈ m, p.1 < 1000) (hnm2 : nm2 < 1000) (n nx : Nat) (ps : List (WT × Nat)) :
    Wk e k0 N ⟨tm, bZ (iB q E ps) ((nm2, ⟨s, E2, 4, n, bE (b6 q) ps 0⟩) :: m), nx, nb⟩ ⟨tm, bZ (fun _ => none) ((nm2, ⟨s, E2, 4, n, bE kA ps 0⟩) :: m), nx, nb⟩ := by
  have key : ∀ j, j ≤ ps.length → Wk e k0 N ⟨tm, bZ (fU (fun i => decide (0 ≤ i)) q E ps) ((nm2, ⟨s, E2, 4, n, bE (cH 0 kA (b6 q)) ps 0⟩) :: m), nx, nb⟩
      ⟨tm, bZ (fU (fun i => decide (j ≤ i)) q E ps) ((nm2, ⟨s, E2, 4, n, bE (cH j kA (b6 q)) ps 0⟩) :: m), nx, nb⟩ := by
    intro j
    induction j with
    | zero => intro _; exact Wk.refl _
    | succ j ih =>
      intro hj
      exact Wk.trans (ih (by omega)) (Be q E E2 hq nm2 m hm hnm2 n nx j ps _ (List.getElem?_eq_getElem (by omega)))
  have h1 := key ps.length (Nat.le_refl _)
  rw [sm q E ps (fun i => decide (0 ≤ i)) (fun i _ => by simp), ql q E ps (fun i => decide (ps.length ≤ i)) (fun i hi => by simp; omega),
    ef (f := cH 0 kA (b6 q)) (g := b6 q) ps 0 (fun i p _ => by simp [cH]),
    ef (f := cH ps.length kA (b6 q)) (g := kA) ps 0 (fun i p hi => by have := (List.getElem?_eq_some_iff.1 hi).1; simp [cH, this])] at h1
  exact h1
end
end Go.Proofs.YtokmkopihhnggaaGreatDoor
