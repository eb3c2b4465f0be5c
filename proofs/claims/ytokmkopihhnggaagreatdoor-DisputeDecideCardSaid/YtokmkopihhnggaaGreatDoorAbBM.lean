/- The abstract machine: a call that only reads what the caller owns; estates with agreements whose claims are rows of the call's own. No program in sight. -/
import Derived.Test.YtokmkopihhnggaaGreatDoorBl2M
set_option linter.unusedVariables false
set_option linter.unusedSimpArgs false
set_option linter.unusedSectionVars false
namespace Go.Proofs.YtokmkopihhnggaaGreatDoor
open Go Go.RowKit
section
variable {P : Program} {e : En} {H : Hp} {nx : Nat} {σ : Nat → Value} {w : World}
end
def eRw (f:Nat->GEst×Nat->C):List (GEst×Nat)->Nat->List C
 |[],_=>[]
 |p::l,i=>[.lit (.bool p.1.cash.neg),.lit (.string p.1.cash.num),.lit (.string p.1.cash.den),f i p,.sh 1 p.1.agrs.length (aA bu p.1.agrs)]++eRw f l (i+1)
theorem pn (f:Nat->GEst×Nat->C):∀(l:List (GEst×Nat)) (i:Nat),(eRw f l i).length=l.length*5
 |[],_=>rfl
 |p::l,i=>by simp only [eRw,List.length_append,List.length_cons,List.length_nil,pn f l];omega
theorem Jh (f:Nat->GEst×Nat->C):∀(l m:List (GEst×Nat)) (i:Nat),eRw f (l++m) i=eRw f l i++eRw f m (i+l.length)
 |[],m,i=>by simp [eRw]
 |p::l,m,i=>by
  simp only [List.cons_append,eRw,Jh f l m (i+1),List.length_cons,List.append_assoc];rw [Nat.add_assoc,Nat.add_comm 1]
theorem xg {f g:Nat->GEst×Nat->C}:∀(l:List (GEst×Nat)) (i:Nat),(∀j p,l[j]? =some p->f (i+j) p=g (i+j) p)->eRw f l i=eRw g l i
 |[],_,_=>rfl
 |p::l,i,h=>by
  have h0:=h 0 p rfl;have h1:=xg (f:=f) (g:=g) l (i+1) fun j p hj=>by
   have:=h (j+1) p (by simpa using hj);rwa [Nat.add_assoc,Nat.add_comm 1]
  simp only [Nat.add_zero] at h0;simp only [eRw,h0,h1]
theorem Ju (f:Nat->GEst×Nat->C) (l:List (GEst×Nat)) (j:Nat) (p:GEst×Nat) (h:l[j]? =some p):
  eRw f l 0=eRw f (l.take j) 0++([.lit (.bool p.1.cash.neg),.lit (.string p.1.cash.num),.lit (.string p.1.cash.den),f j p,.sh 1 p.1.agrs.length (aA bu p.1.agrs)]++eRw f (l.drop (j+1)) (j+1)):=by
 have hlt:j<l.length:=(List.getElem?_eq_some_iff.1 h).1;have hp:l[j]=p:=(List.getElem?_eq_some_iff.1 h).2;conv=>lhs;rw [←List.take_append_drop j l,Jh]
 rw [List.drop_eq_getElem_cons hlt,hp];have:(l.take j).length=j:=by rw [List.length_take];omega
 rw [this,Nat.zero_add];rfl
theorem J8 (f:Nat->GEst×Nat->C) (l:List (GEst×Nat)) (j:Nat) (h:j<l.length):(eRw f (l.take j) 0).length=j*5:=by
 rw [pn,List.length_take];congr 1;omega
theorem NF (f:Nat->GEst×Nat->C) (l:List (GEst×Nat)) (j:Nat) (p:GEst×Nat) (h:l[j]? =some p):
  (eRw f l 0).drop (j*5)=[.lit (.bool p.1.cash.neg),.lit (.string p.1.cash.num),.lit (.string p.1.cash.den),f j p,.sh 1 p.1.agrs.length (aA bu p.1.agrs)]++eRw f (l.drop (j+1)) (j+1):=by
 have hlt:j<l.length:=(List.getElem?_eq_some_iff.1 h).1;rw [Ju f l j p h,←J8 f l j hlt,List.drop_left]
theorem Nd (f:Nat->GEst×Nat->C) (l:List (GEst×Nat)) (j:Nat) (p:GEst×Nat) (h:l[j]? =some p):
  (eRw f l 0).drop (j*5+3)=f j p:: .sh 1 p.1.agrs.length (aA bu p.1.agrs)::eRw f (l.drop (j+1)) (j+1):=by
 rw [←List.drop_drop,NF f l j p h];rfl
theorem Jn (f:Nat->GEst×Nat->C) (l:List (GEst×Nat)) (j:Nat) (p:GEst×Nat) (h:l[j]? =some p):(eRw f l 0)[j*5+3]? =some (f j p):=by
 rw [←List.head?_drop,Nd f l j p h];rfl
theorem KR (f g:Nat->GEst×Nat->C) (l:List (GEst×Nat)) (j:Nat) (p p':GEst×Nat) (h:l[j]? =some p) (hc:p'.1.cash=p.1.cash) (ha:p'.1.agrs=p.1.agrs) (hg:∀i q,i≠j->l[i]? =some q->f i q=g i q):
  (eRw f l 0).set (j*5+3) (g j p')=eRw g (l.set j p') 0:=by
 have hlt:j<l.length:=(List.getElem?_eq_some_iff.1 h).1;have h':(l.set j p')[j]? =some p':=by simp [hlt]
 have e1:(l.set j p').take j=l.take j:=by rw [List.take_set];exact List.set_eq_of_length_le (by rw [List.length_take];omega)
 have e2:(l.set j p').drop (j+1)=l.drop (j+1):=by rw [List.drop_set];simp
 rw [Ju f l j p h,Ju g (l.set j p') j p' h',e1,e2,hc,ha];have t:=J8 f l j hlt;rw [List.set_append_right _ _ (by omega),t];have:j*5+3-j*5=3:=by omega
 rw [this];congr 1
 ·refine xg _ _ fun i q hq=>?_
  have hi:i<j:=by
   have:=(List.getElem?_eq_some_iff.1 hq).1;rw [List.length_take] at this;omega
  rw [List.getElem?_take_of_lt hi] at hq;have:=hg i q (by omega) hq;simpa using this
 simp only [List.cons_append,List.nil_append,List.set_cons_succ,List.set_cons_zero];congr 5;refine xg _ _ fun i q hq=>?_
 rw [List.getElem?_drop] at hq;exact hg _ q (by omega) hq
section
variable {P : Program} {e : En} {k0 : Kx} {N : Nat} {tm : Nat → AV} {nb s : Nat} {Q : Exit → St → Prop} {c : Code}
theorem LV (q : Nat) (E E2 : TypeId) (hq : q < 1000) (nm2 : Nat) (m : List (Nat × Blk)) (hm : ∀ p ∈ m, p.1 < 1000) (hnm2 : nm2 < 1000) (n nx j : Nat) (ps : List (GEst × Nat)) (p : GEst × Nat) (hp : ps[j]? = some p) :
    Wk e k0 N ⟨tm, bZ (rG (fun i => decide (j ≤ i)) q E ps) ((nm2, ⟨s, E2, 5, n, eRw (kb j fSh (gm q)) ps 0⟩) :: m), nx, nb⟩
      ⟨tm, bZ (rG (fun i => decide (j + 1 ≤ i)) q E ps) ((nm2, ⟨s, E2, 5, n, eRw (kb (j + 1) fSh (gm q)) ps 0⟩) :: m), nx, nb⟩ := by
  intro a w hr
  have hlt : j < ps.length := (List.getElem?_eq_some_iff.1 hp).1
  have hpj : ps[j] = p := (List.getElem?_eq_some_iff.1 hp).2
  have e0 : (1000 * (j + 1) + q) / 1000 - 1 = j := by omega
  have h1 := mo (nm := 1000 * (j + 1) + q) (nm2 := nm2) (off := j * 5 + 3) (s := p.2) (n := p.1.claims.length) (sz := 5) (B := ⟨p.2, E, 5, p.1.claims.length, aA b0 p.1.claims⟩) (B2 := ⟨s, E2, 5, n, eRw (kb j fSh (gm q)) ps 0⟩)
    (by show bZ _ _ _ = _
        rw [bZ.eq_2, cA _ _ (by omega), ki (by omega) hm]
        unfold rG
        rw [e0, if_pos (by simp)]; exact kK hq hp)
    (by show bZ _ _ _ = _
        rw [bZ.eq_2, bI]) (by omega) (by show (5 : Nat) ≠ 0; decide) (by show (5 : Nat) ≠ 0; decide) rfl
    (by rw [Jn _ _ _ _ hp]; simp [kb, gm]) hr
  have hset : (eRw (kb j fSh (gm q)) ps 0).set (j * 5 + 3) (.sh 5 p.1.claims.length (aA b0 p.1.claims)) = eRw (kb (j + 1) fSh (gm q)) ps 0 := by
    have h2 := KR (kb j fSh (gm q)) (kb (j + 1) fSh (gm q)) ps j p p hp rfl rfl (fun i x hi _ => by
      unfold kb
      by_cases h : i < j
      · rw [if_pos h, if_pos (by omega)]
      rw [if_neg h, if_neg (by omega)])
    have h3 : kb (j + 1) fSh (gm q) j p = .sh 5 p.1.claims.length (aA b0 p.1.claims) := by simp [kb, fSh]
    rw [h3] at h2
    rw [h2]
    congr 1
    exact List.set_getElem_self hlt |> fun h => by rw [← hpj]; exact h
  simp only [] at h1
  rw [hset] at h1
  refine jq _ _ (fun t => .inl rfl) (fun nm B hB => ?_) h1
  show up (up _ _ _) nm2 _ nm = some B
  rw [bZ.eq_2, aB] at hB
  rw [aB]
  split
  · rename_i h; rw [if_pos h] at hB; exact hB
  rename_i h
  rw [if_neg h] at hB
  rw [aB]
  split
  · rename_i h4
    subst h4
    rw [ki (by omega) hm] at hB
    unfold rG at hB
    rw [e0, if_neg (by simp)] at hB
    cases hB
  rename_i h4
  show bZ _ _ _ = _
  rw [bZ.eq_2, cA _ _ h]
  rw [← hB]
  refine Jk ?_
  unfold rG
  cases hx : tbl q E ps nm with
  | none => split <;> split <;> rfl
  | some B' =>
    obtain ⟨i, p', rfl, h2, _⟩ := hZ hx
    have e1 : (1000 * (i + 1) + q) / 1000 - 1 = i := by omega
    rw [e1]
    have hij : i ≠ j := fun e => h4 (by rw [e])
    by_cases hi : j ≤ i
    · have : j + 1 ≤ i := by omega
      simp [hi, this]
    have : ¬ j + 1 ≤ i := by omega
    simp [hi, this]
theorem KS (q : Nat) (E E2 : TypeId) (hq : q < 1000) (nm2 : Nat) (m : List (Nat × Blk)) (hm : ∀ p ∈ m, p.1 < 1000) (hnm2 : nm2 < 1000) (n nx : Nat) (ps : List (GEst × Nat)) :
    Wk e k0 N ⟨tm, bZ (tbl q E ps) ((nm2, ⟨s, E2, 5, n, eRw (gm q) ps 0⟩) :: m), nx, nb⟩ ⟨tm, bZ (fun _ => none) ((nm2, ⟨s, E2, 5, n, eRw fSh ps 0⟩) :: m), nx, nb⟩ := by
  have key : ∀ j, j ≤ ps.length → Wk e k0 N ⟨tm, bZ (rG (fun i => decide (0 ≤ i)) q E ps) ((nm2, ⟨s, E2, 5, n, eRw (kb 0 fSh (gm q)) ps 0⟩) :: m), nx, nb⟩
      ⟨tm, bZ (rG (fun i => decide (j ≤ i)) q E ps) ((nm2, ⟨s, E2, 5, n, eRw (kb j fSh (gm q)) ps 0⟩) :: m), nx, nb⟩ := by
    intro j
    induction j with
    | zero => intro _; exact Wk.refl _
    | succ j ih =>
      intro hj
      exact Wk.trans (ih (by omega)) (LV q E E2 hq nm2 m hm hnm2 n nx j ps _ (List.getElem?_eq_getElem (by omega)))
  have h1 := key ps.length (Nat.le_refl _)
  rw [JJ q E ps (fun i => decide (0 ≤ i)) (fun i _ => by simp), Js q E ps (fun i => decide (ps.length ≤ i)) (fun i hi => by simp; omega),
    xg (f := kb 0 fSh (gm q)) (g := gm q) ps 0 (fun i p _ => by simp [kb]),
    xg (f := kb ps.length fSh (gm q)) (g := fSh) ps 0 (fun i p hi => by have := (List.getElem?_eq_some_iff.1 hi).1; simp [kb, this])] at h1
  exact h1
end
theorem JS:∀(ps:List (GEst×Nat)) (i:Nat),eRw fSh ps i=aA aJ (ps.map (·.1))
 |[],_=>rfl
 |p::ps,i=>by
  rw [List.map_cons,cf,eRw,JS ps (i+1)];rfl
end Go.Proofs.YtokmkopihhnggaaGreatDoor
