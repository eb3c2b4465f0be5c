/- The abstract machine: a call that only reads what the caller owns; estates with agreements whose claims are rows of the call's own. No program in sight. -/
import Derived.Test.YtcgpghifhehlhaaGreatDoorBl3M
set_option linter.unusedVariables false
set_option linter.unusedSimpArgs false
set_option linter.unusedSectionVars false
namespace Go.Proofs.YtcgpghifhehlhaaGreatDoor
open Go Go.RowKit
section
variable {P : Program} {e : En} {H : Hp} {nx : Nat} {σ : Nat → Value} {w : World}
end
def eRw (f:Nat->GEst×Nat->C):List (GEst×Nat)->Nat->List C
 |[],_=>[]
 |p::l,i=>[.lit (.bool p.1.cash.neg),.lit (.string p.1.cash.num),.lit (.string p.1.cash.den),f i p,.sh 1 p.1.agrs.length (ar aU p.1.agrs)]++eRw f l (i+1)
theorem kz (f:Nat->GEst×Nat->C):∀(l:List (GEst×Nat)) (i:Nat),(eRw f l i).length=l.length*5
 |[],_=>rfl
 |p::l,i=>by simp only [eRw,List.length_append,List.length_cons,List.length_nil,kz f l];omega
theorem lF (f:Nat->GEst×Nat->C):∀(l m:List (GEst×Nat)) (i:Nat),eRw f (l++m) i=eRw f l i++eRw f m (i+l.length)
 |[],m,i=>by simp [eRw]
 |p::l,m,i=>by
  simp only [List.cons_append,eRw,lF f l m (i+1),List.length_cons,List.append_assoc];rw [Nat.add_assoc,Nat.add_comm 1]
theorem gl {f g:Nat->GEst×Nat->C}:∀(l:List (GEst×Nat)) (i:Nat),(∀j p,l[j]? =some p->f (i+j) p=g (i+j) p)->eRw f l i=eRw g l i
 |[],_,_=>rfl
 |p::l,i,h=>by
  have h0:=h 0 p rfl;have h1:=gl (f:=f) (g:=g) l (i+1) fun j p hj=>by
   have:=h (j+1) p (by simpa using hj);rwa [Nat.add_assoc,Nat.add_comm 1]
  simp only [Nat.add_zero] at h0;simp only [eRw,h0,h1]
theorem jZ (f:Nat->GEst×Nat->C) (l:List (GEst×Nat)) (j:Nat) (p:GEst×Nat) (h:l[j]? =some p):
  eRw f l 0=eRw f (l.take j) 0++([.lit (.bool p.1.cash.neg),.lit (.string p.1.cash.num),.lit (.string p.1.cash.den),f j p,.sh 1 p.1.agrs.length (ar aU p.1.agrs)]++eRw f (l.drop (j+1)) (j+1)):=by
 have hlt:j<l.length:=(List.getElem?_eq_some_iff.1 h).1;have hp:l[j]=p:=(List.getElem?_eq_some_iff.1 h).2;conv=>lhs;rw [←List.take_append_drop j l,lF]
 rw [List.drop_eq_getElem_cons hlt,hp];have:(l.take j).length=j:=by rw [List.length_take];omega
 rw [this,Nat.zero_add];rfl
theorem mR (f:Nat->GEst×Nat->C) (l:List (GEst×Nat)) (j:Nat) (h:j<l.length):(eRw f (l.take j) 0).length=j*5:=by
 rw [kz,List.length_take];congr 1;omega
theorem yK (f:Nat->GEst×Nat->C) (l:List (GEst×Nat)) (j:Nat) (p:GEst×Nat) (h:l[j]? =some p):
  (eRw f l 0).drop (j*5)=[.lit (.bool p.1.cash.neg),.lit (.string p.1.cash.num),.lit (.string p.1.cash.den),f j p,.sh 1 p.1.agrs.length (ar aU p.1.agrs)]++eRw f (l.drop (j+1)) (j+1):=by
 have hlt:j<l.length:=(List.getElem?_eq_some_iff.1 h).1;rw [jZ f l j p h,←mR f l j hlt,List.drop_left]
theorem xq (f:Nat->GEst×Nat->C) (l:List (GEst×Nat)) (j:Nat) (p:GEst×Nat) (h:l[j]? =some p):
  (eRw f l 0).drop (j*5+3)=f j p:: .sh 1 p.1.agrs.length (ar aU p.1.agrs)::eRw f (l.drop (j+1)) (j+1):=by
 rw [←List.drop_drop,yK f l j p h];rfl
theorem pz (f:Nat->GEst×Nat->C) (l:List (GEst×Nat)) (j:Nat) (p:GEst×Nat) (h:l[j]? =some p):(eRw f l 0)[j*5+3]? =some (f j p):=by
 rw [←List.head?_drop,xq f l j p h];rfl
theorem pA (f g:Nat->GEst×Nat->C) (l:List (GEst×Nat)) (j:Nat) (p p':GEst×Nat) (h:l[j]? =some p) (hc:p'.1.cash=p.1.cash) (ha:p'.1.agrs=p.1.agrs) (hg:∀i q,i≠j->l[i]? =some q->f i q=g i q):
  (eRw f l 0).set (j*5+3) (g j p')=eRw g (l.set j p') 0:=by
 have hlt:j<l.length:=(List.getElem?_eq_some_iff.1 h).1;have h':(l.set j p')[j]? =some p':=by simp [hlt]
 have e1:(l.set j p').take j=l.take j:=by rw [List.take_set];exact List.set_eq_of_length_le (by rw [List.length_take];omega)
 have e2:(l.set j p').drop (j+1)=l.drop (j+1):=by rw [List.drop_set];simp
 rw [jZ f l j p h,jZ g (l.set j p') j p' h',e1,e2,hc,ha];have t:=mR f l j hlt;rw [List.set_append_right _ _ (by omega),t];have:j*5+3-j*5=3:=by omega
 rw [this];congr 1
 ·refine gl _ _ fun i q hq=>?_
  have hi:i<j:=by
   have:=(List.getElem?_eq_some_iff.1 hq).1;rw [List.length_take] at this;omega
  rw [List.getElem?_take_of_lt hi] at hq;have:=hg i q (by omega) hq;simpa using this
 simp only [List.cons_append,List.nil_append,List.set_cons_succ,List.set_cons_zero];congr 5;refine gl _ _ fun i q hq=>?_
 rw [List.getElem?_drop] at hq;exact hg _ q (by omega) hq
section
variable {P : Program} {e : En} {k0 : Kx} {N : Nat} {tm : Nat → AV} {nb s : Nat} {Q : Exit → St → Prop} {c : Code}
theorem tH (q : Nat) (E E2 : TypeId) (hq : q < 1000) (nm2 : Nat) (m : List (Nat × Blk)) (hm : ∀ p ∈ m, p.1 < 1000) (hnm2 : nm2 < 1000) (n nx j : Nat) (ps : List (GEst × Nat)) (p : GEst × Nat) (hp : ps[j]? = some p) :
    Wk e k0 N ⟨tm, bW (ia (fun i => decide (j ≤ i)) q E ps) ((nm2, ⟨s, E2, 5, n, eRw (dw j fSh (aR q)) ps 0⟩) :: m), nx, nb⟩
      ⟨tm, bW (ia (fun i => decide (j + 1 ≤ i)) q E ps) ((nm2, ⟨s, E2, 5, n, eRw (dw (j + 1) fSh (aR q)) ps 0⟩) :: m), nx, nb⟩ := by
  intro a w hr
  have hlt : j < ps.length := (List.getElem?_eq_some_iff.1 hp).1
  have hpj : ps[j] = p := (List.getElem?_eq_some_iff.1 hp).2
  have e0 : (1000 * (j + 1) + q) / 1000 - 1 = j := by omega
  have h1 := gF (nm := 1000 * (j + 1) + q) (nm2 := nm2) (off := j * 5 + 3) (s := p.2) (n := p.1.claims.length) (sz := 5) (B := ⟨p.2, E, 5, p.1.claims.length, ar aA p.1.claims⟩) (B2 := ⟨s, E2, 5, n, eRw (dw j fSh (aR q)) ps 0⟩)
    (by show bW _ _ _ = _
        rw [bW.eq_2, ck _ _ (by omega), fq (by omega) hm]
        unfold ia
        rw [e0, if_pos (by simp)]; exact bk hq hp)
    (by show bW _ _ _ = _
        rw [bW.eq_2, bB]) (by omega) (by show (5 : Nat) ≠ 0; decide) (by show (5 : Nat) ≠ 0; decide) rfl
    (by rw [pz _ _ _ _ hp]; simp [dw, aR]) hr
  have hset : (eRw (dw j fSh (aR q)) ps 0).set (j * 5 + 3) (.sh 5 p.1.claims.length (ar aA p.1.claims)) = eRw (dw (j + 1) fSh (aR q)) ps 0 := by
    have h2 := pA (dw j fSh (aR q)) (dw (j + 1) fSh (aR q)) ps j p p hp rfl rfl (fun i x hi _ => by
      unfold dw
      by_cases h : i < j
      · rw [if_pos h, if_pos (by omega)]
      rw [if_neg h, if_neg (by omega)])
    have h3 : dw (j + 1) fSh (aR q) j p = .sh 5 p.1.claims.length (ar aA p.1.claims) := by simp [dw, fSh]
    rw [h3] at h2
    rw [h2]
    congr 1
    exact List.set_getElem_self hlt |> fun h => by rw [← hpj]; exact h
  simp only [] at h1
  rw [hset] at h1
  refine gT _ _ (fun t => .inl rfl) (fun nm B hB => ?_) h1
  show up (up _ _ _) nm2 _ nm = some B
  rw [bW.eq_2, aj] at hB
  rw [aj]
  split
  · rename_i h; rw [if_pos h] at hB; exact hB
  rename_i h
  rw [if_neg h] at hB
  rw [aj]
  split
  · rename_i h4
    subst h4
    rw [fq (by omega) hm] at hB
    unfold ia at hB
    rw [e0, if_neg (by simp)] at hB
    cases hB
  rename_i h4
  show bW _ _ _ = _
  rw [bW.eq_2, ck _ _ h]
  rw [← hB]
  refine jB ?_
  unfold ia
  cases hx : tbl q E ps nm with
  | none => split <;> split <;> rfl
  | some B' =>
    obtain ⟨i, p', rfl, h2, _⟩ := bD hx
    have e1 : (1000 * (i + 1) + q) / 1000 - 1 = i := by omega
    rw [e1]
    have hij : i ≠ j := fun e => h4 (by rw [e])
    by_cases hi : j ≤ i
    · have : j + 1 ≤ i := by omega
      simp [hi, this]
    have : ¬ j + 1 ≤ i := by omega
    simp [hi, this]
theorem bZ (q : Nat) (E E2 : TypeId) (hq : q < 1000) (nm2 : Nat) (m : List (Nat × Blk)) (hm : ∀ p ∈ m, p.1 < 1000) (hnm2 : nm2 < 1000) (n nx : Nat) (ps : List (GEst × Nat)) :
    Wk e k0 N ⟨tm, bW (tbl q E ps) ((nm2, ⟨s, E2, 5, n, eRw (aR q) ps 0⟩) :: m), nx, nb⟩ ⟨tm, bW (fun _ => none) ((nm2, ⟨s, E2, 5, n, eRw fSh ps 0⟩) :: m), nx, nb⟩ := by
  have key : ∀ j, j ≤ ps.length → Wk e k0 N ⟨tm, bW (ia (fun i => decide (0 ≤ i)) q E ps) ((nm2, ⟨s, E2, 5, n, eRw (dw 0 fSh (aR q)) ps 0⟩) :: m), nx, nb⟩
      ⟨tm, bW (ia (fun i => decide (j ≤ i)) q E ps) ((nm2, ⟨s, E2, 5, n, eRw (dw j fSh (aR q)) ps 0⟩) :: m), nx, nb⟩ := by
    intro j
    induction j with
    | zero => intro _; exact Wk.refl _
    | succ j ih =>
      intro hj
      exact Wk.trans (ih (by omega)) (tH q E E2 hq nm2 m hm hnm2 n nx j ps _ (List.getElem?_eq_getElem (by omega)))
  have h1 := key ps.length (Nat.le_refl _)
  rw [pu q E ps (fun i => decide (0 ≤ i)) (fun i _ => by simp), mQ q E ps (fun i => decide (ps.length ≤ i)) (fun i hi => by simp; omega),
    gl (f := dw 0 fSh (aR q)) (g := aR q) ps 0 (fun i p _ => by simp [dw]),
    gl (f := dw ps.length fSh (aR q)) (g := fSh) ps 0 (fun i p hi => by have := (List.getElem?_eq_some_iff.1 hi).1; simp [dw, this])] at h1
  exact h1
end
theorem bP:∀(ps:List (GEst×Nat)) (i:Nat),eRw fSh ps i=ar bh (ps.map (·.1))
 |[],_=>rfl
 |p::ps,i=>by
  rw [List.map_cons,aY,eRw,bP ps (i+1)];rfl
end Go.Proofs.YtcgpghifhehlhaaGreatDoor
