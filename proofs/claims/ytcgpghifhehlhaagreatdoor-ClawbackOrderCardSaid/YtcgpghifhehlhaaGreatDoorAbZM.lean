/- The abstract machine: zeros appended to a row of the call's own. No program in sight. -/
import Derived.Test.YtcgpghifhehlhaaGreatDoorAbBM
import Derived.Laws.Cover3
set_option linter.unusedVariables false
set_option linter.unusedSimpArgs false
set_option linter.defProp false
set_option linter.unusedSectionVars false
namespace Go.Proofs.YtcgpghifhehlhaaGreatDoor
open Go Go.RowKit
theorem Fy {P:Program} {z:Value} {zs:List Value} (q1:z.cells.toList=zs) (n:Nat):(Builtin.zeroCells z.cells n).toList=eA n zs:=by
 have:=jH z.cells n;rw [q1] at this;simp only [madeCells] at this;simpa [Builtin.zeroCells] using this
theorem Gy {P : Program} {w : World} {base : Nat} {t tn ty E : TypeId} {sz by_ : Nat} {kn kq : IntKind} (hel : elT P t = some (E, sz, by_)) (htn : P.underlying tn = some (.int kn)) {zs : List Value} (hz : zrT P E = some zs) (hzs : zs.length = sz) (hsz : 0 < sz) {v : Value} {n : Nat} {xs : List Value} (ho : w.ownsRow base E sz v n xs)
    {m : Nat} (hm : 0 < m) (h63 : n + m ≤ maxLen) (hb : (n + m) * by_ ≤ 140737488355328) (hbase : base ≤ w.heap.size) :
    ∃ v' w', (Builtin.append_ #[t, tn] ty #[v, .int kq (m : Int)]).run P w = .ok v' w' ∧ v'.oneCell' = true ∧ w'.ownsRow base E sz v' (n + m) (xs ++ eA m zs) ∧ w.grownBy w' v.ownBlock ∧ (v'.ownBlock = v.ownBlock ∨ v'.ownBlock = some w.heap.size) := by
  obtain ⟨z, q1, q2, q3⟩ := jm hz
  obtain ⟨g1, i, g2, g3, g4⟩ := dZ hel
  have hzc := fun k => Fy (P := P) q1 k
  have hzsz : z.cells.size = sz := by rw [← hzs, ← q1]; simp
  have hzi : i.zero = some z := by
    have := q3 w
    cases hiz : i.zero with
    | none => simp [zeroValue, typeInfo, g2, hiz] at this
    | some z' => simp [zeroValue, typeInfo, g2, hiz] at this; rw [this]
  have hsm : n + m ≤ 9223372036854775807 := by simp only [maxLen] at h63; omega
  have hrl : (eA m zs).length = m * sz := by rw [dh, hzs]
  have hlen : (xs ++ eA m zs).length = (n + m) * sz := by rw [List.length_append, ho.1, hrl, Nat.add_mul]
  have hmb : m * by_ ≤ 140737488355328 := Nat.le_trans (Nat.mul_le_mul_right _ (by omega)) hb
  have grown : ∀ (old : Nat), old < n + m → ∀ (row : Option Nat),
      (w.drew.alloc (.cells (xs.toArray ++ Builtin.zeroCells z.cells m ++ Builtin.zeroCells z.cells (grownCap w (n + m) old E - (n + m))) E)).ownsRow base E sz
        (.slice (some ⟨w.heap.size, 0, none⟩) (n + m) (grownCap w (n + m) old E)) (n + m) (xs ++ eA m zs) ∧
      w.grownBy (w.drew.alloc (.cells (xs.toArray ++ Builtin.zeroCells z.cells m ++ Builtin.zeroCells z.cells (grownCap w (n + m) old E - (n + m))) E)) row := by
    intro old ho2 row
    have hge := grownCap_ge w (n + m) old E
    have hcm : grownCap w (n + m) old E ≤ maxLen := grownCap_le_maxLen w (n + m) old E h63
    refine ⟨⟨hlen, .inr ⟨w.heap.size, _, _, rfl, hbase, heap_alloc_new w.drew _, hge, hcm, ?_, ?_⟩⟩, ⟨rfl, rfl, rfl, by simp, fun k hk _ => Below.heap_alloc _ _ _ hk⟩⟩
    · simp only [Array.size_append, List.size_toArray, size_zeroCells, hzsz, ho.1, ← Nat.add_mul]
      congr 1
      omega
    simp only [Array.toList_append, hzc]
    rw [← hlen]
    exact List.take_left
  rcases ho.2 with ⟨rfl, rfl⟩ | ⟨g, cap, cur, rfl, hbg, hg, hnc, hcm, hcs, htake⟩
  · have hx : xs = [] := List.eq_nil_of_length_eq_zero (by simpa using ho.1)
    subst hx
    have hfit : Builtin.nextslicecap (0 + m) 0 * i.bytes ≤ 281474976710656 := by
      have : Builtin.nextslicecap (0 + m) 0 = m := by simp [Builtin.nextslicecap, hm]
      rw [this, g4]; omega
    have hr := Lib.run_append_grow_zeros (P := P) w t tn ty E i z kq kn g1 htn g2 hzi none 0 0 [] (by simp [Builtin.firstCells]) m hm (by rw [g3]; omega) (by omega) (by omega) (by rw [g4]; omega) hfit
    have hgr := grown 0 (by omega) (Value.ownBlock (.slice none 0 0))
    exact ⟨_, _, hr, rfl, hgr.1, hgr.2, .inr rfl⟩
  by_cases hroom : n + m ≤ cap
  · have hneg : ¬ ((m : Int) < 0) := by omega
    have hw : IntKind.i64.wrap (m : Int) = m := by rw [IntKind.wrap_i64]; omega
    have h48i : ¬ (281474976710656 < (m : Int) * (i.bytes : Int)) := by
      rw [← Int.natCast_mul, g4]; omega
    have hns : ¬ (m * sz = 0) := Nat.mul_ne_zero (by omega) (by omega)
    have hm0 : ¬ (m = 0) := by omega
    have hs0 : ¬ (sz = 0) := by omega
    have hfit : n * sz + (eA m zs).length ≤ cur.size := by rw [hrl, hcs, ← Nat.add_mul]; exact Nat.mul_le_mul_right _ hroom
    have h1 : ∀ u ∈ eA m zs, u.oneCell' = true := fun u hu => by
      simp only [eA, List.mem_flatten, List.mem_replicate] at hu
      obtain ⟨l, ⟨_, rfl⟩, h⟩ := hu
      exact List.all_eq_true.1 q2 u h
    have hst := run_storeCells_at P g (n * sz) E (eA m zs) 0 cur w hg (by simpa using hfit) h1
    simp only [Nat.add_zero] at hst
    have hrun : (Builtin.append_ #[t, tn] ty #[.slice (some ⟨g, 0, none⟩) n cap, .int kq (m : Int)]).run P w =
        .ok (.slice (some ⟨g, 0, none⟩) (n + m) cap) (w.setRow g (cur.toList.take (n * sz) ++ eA m zs ++ cur.toList.drop (n * sz + (eA m zs).length)).toArray) := by
      simp [Builtin.append_, run_underlying g1, run_underlying htn, sizeOf, typeInfo, zeroValue, g2, hzi, asInt, asIntOf, hw, hneg, hns, h48i, hroom, Addr.add_lit, g3, hzc, hst]
      try omega
    refine ⟨_, _, hrun, rfl, ⟨hlen, .inr ⟨g, cap, _, rfl, hbg, setRow_heap w g cur _ E _ hg, hroom, hcm, ?_, ?_⟩⟩, ⟨rfl, rfl, rfl, by simp, fun k _ hk => setRow_other w g k _ (fun e => hk (by simp [Value.ownBlock, e]))⟩, .inl rfl⟩
    · simp only [List.size_toArray, List.length_append, List.length_take, List.length_drop, Array.length_toList]
      omega
    rw [htake, ← hlen]
    exact List.take_left
  have holds : (Builtin.firstCells i.size n (.slice (some ⟨g, 0, none⟩) n cap)).run P w.drew = .ok xs.toArray w.drew := by
    refine run_firstCells_some (P := P) w.drew i.size n ⟨g, 0, none⟩ n cap xs (by rw [g3]; exact ho.1) fun j u hu => ?_
    exact ho.cells (g := g) rfl j u hu
  have hr := Lib.run_append_grow_zeros (P := P) w t tn ty E i z kq kn g1 htn g2 hzi (some ⟨g, 0, none⟩) n cap xs holds m hm (by rw [g3]; omega) (by omega) (by omega) (by rw [g4]; omega) (growslice_fits (by omega) (by rw [g4]; exact hb))
  have hgr := grown cap (by omega) (Value.ownBlock (.slice (some ⟨g, 0, none⟩) n cap))
  exact ⟨_, _, hr, rfl, hgr.1, hgr.2, .inr rfl⟩
def GU (P : Program) (st : St) (d : Nat) (s x : Operand) (t t' : TypeId) : Option (Prop × St) := match ev st s, ev st x, elT P t, P.underlying t' with
  | .val (.one (.own nm s' n sz'')), .val (.one (.lit (.int _ m))), some (E, sz, by_), some (.int _) => match st.H nm, zrT P E with
    | some B, some zs => some (0 < m ∧ B.st = s' ∧ sz'' = sz ∧ B.E = E ∧ zs.length = sz ∧ 0 < sz ∧ ((n + m.toNat) * by_ ≤ 140737488355328 ∧ n + m.toNat ≤ 4611686018427387904),
        ⟨up st.tm d (.val (.one (.own (st.nb + d) st.nx (n + m.toNat) sz))), up (up st.H nm none) (st.nb + d) (some ⟨st.nx, E, sz, n + m.toNat, B.cs ++ eA m.toNat (zs.map .lit)⟩), st.nx + 1, st.nb⟩)
    | _, _ => none
  | _, _, _, _ => none
def z2T:Op->Option (Operand×Operand×TypeId×TypeId)
 | .call {callee:= .builtin .append,args,argTypes}=>match args.toList,argTypes.toList with
  |[s,x],[t,t']=>match x with
   | .const (.int _ _)=>some (s,x,t,t')
   |_=>none
  |_,_=>none
 |_=>none
def FU (P:Program) (N:Nat) (I:List Nat) (st:St) (o:Oper) (K:St->Prop):Prop:=match z2T o.op,o.dst with
 |some (s,x,t,t'),some d=>gP (GU P st d s x t t') d N K
 |_,_=>gm P N I st o K
section
variable {P : Program} {e : En} {k0 : Kx} {N : Nat} {I : List Nat} {st st' : St} {a : Act} {w : World} {o : Oper} {p : Prop} {d : Nat} {K : Act → World → Prop} {Q : Exit → Act → World → Prop}
theorem IX (hr:Rel e k0 N st a w) (hdst:o.dst=some d) (hdN:d<N) {s x:Operand} {t t':TypeId} (hop:o.op= .call {callee:= .builtin .append,args:= #[s,x],argTypes:= #[t,t']}) (h:GU P st d s x t t'=some (p,st')) (hp:p)
  (hK:∀a' w',Rel e k0 N st' a' w'->K a' w'):o.wp P a w K Q:=by
 obtain ⟨σ,h1,h2,h3⟩:=hr.ex;unfold GU at h;have hs:=bc h2 s;have hy:=bc h2 x;split at h<;>try (cases h;done)
 rename_i nm s' n sz'' kq m E sz by_ kn hes hey hel hu;rw [hes] at hs;rw [hey] at hy;split at h<;>try (cases h;done)
 rename_i B zs hB hz;simp only [Option.some.injEq,Prod.mk.injEq] at h;obtain ⟨rfl,rfl⟩:=h;obtain ⟨hm0,hst,rfl,hBE,hzs,hsz,hb,hl⟩:=hp;obtain ⟨m,rfl⟩:∃k:Nat,m=(k:Int):=⟨m.toNat,by omega⟩;simp only [Int.toNat_natCast] at hb hl hK;simp only [aG,bb,den] at hs hy;obtain ⟨f1,f2,f3⟩:=hs.2.2 B hB hst;have f1':a.eval s=σ nm:=f1;obtain ⟨z,q1,q2,q3⟩:=jm hz;obtain ⟨g1,g2,xs,g3,g4⟩:=h1.rowOf hB (.inl (by omega));have g3':w.ownsRow e.w0.heap.size E sz'' (σ nm) n xs:=by rw [←hBE,←f2,←f3];exact g3
 have hml:maxLen=4611686018427387904∨4611686018427387904<=maxLen:=by unfold maxLen;omega
 obtain ⟨v',w',r1,r2,r3,r4,r5⟩:=Gy (kq:=kq) (ty:=o.type) hel hu hz hzs hsz g3' (m:=m) (by omega) (by omega) hb h1.size;obtain ⟨k1,k2⟩:=RW.new (nm0:=nm) (d:=st.nb+d) h1 r4 (B':=⟨st.nx,E,sz'',n+m,B.cs++eA m (zs.map .lit)⟩) rfl (by show sz''≠0;omega) (by simp only [List.length_append,dh,List.length_map];rw [g2,f2,f3,hzs,Nat.add_mul]) (fun r hr=>⟨iV hr,B,hB⟩) (fun r hr=>by
  rw [kp r3] at hr;rcases r5 with h5|h5
  ·exact .inr ⟨iV (h5▸hr),B,hB⟩
  rw [h5] at hr;cases hr;exact .inl (Nat.le_refl _)) r3 (g4.append (gw (dN _ _ q2) _))
 refine fv (v:=v') (w':=w') ?_ ?_
 ·have r1':=r1;simp only [execOp,hop,resolve,Sem.run_bind,Sem.run_pure,Result.andThen_ok,invoke,builtin,List.map_toArray,List.map_cons,List.map_nil,f1',hy.1];rw [r1'];rfl
 rw [hdst];refine hK _ _ (hr.put k1 h2 h3 k2 ?_ d hdN);exact cb (st.nb+d) σ w' r2
theorem Gz {S:St->Prop} (hr:Rel e k0 N st a w) (h:FU P N I st o S) (hK:∀st' a' w',S st'->Rel e k0 N st' a' w'->K a' w'):o.wp P a w K Q:=by
 unfold FU at h;split at h
 ·rename_i s x t t' d hb hdst;have hop:o.op= .call {callee:= .builtin .append,args:= #[s,x],argTypes:= #[t,t']}:=by
   unfold z2T at hb;split at hb<;>try (cases hb;done)
   rename_i args argTypes hop;split at hb<;>try (cases hb;done)
   rename_i s' x' t1 t2 ha hty;split at hb<;>try (cases hb;done)
   simp only [Option.some.injEq,Prod.mk.injEq] at hb;obtain ⟨rfl,rfl,rfl,rfl⟩:=hb;rw [hop,show args= #[s',_] from Array.toList_inj.1 ha,show argTypes= #[t1,t2] from Array.toList_inj.1 hty]
  unfold gP at h;split at h<;>try (exact h.elim;done)
  rename_i p st' he;obtain ⟨hd,hp,hS⟩:=h;exact IX (st':=st') hr hdst hd hop he hp fun a' w' h1=>hK _ a' w' hS h1
 exact lH hr h fun st' a' w' h1 h2 _=>hK st' a' w' h1 h2
end
def AL4 (P:Program) (N:Nat) (I:List Nat) (Q:St->Prop):List Oper->List (Option (Nat×Bool))->St->Prop
 |o::os,g::gs,st=>match gd g st with
  |some true=>FU P N I st o (AL4 P N I Q os gs)
  |some false=>AL4 P N I Q os gs (putO st o.dst (.tup []))
  |none=>False
 |[],_,st=>Q st
 |_,_,_=>False
def IJ (P:Program) (N:Nat) (I:List Nat) (Q:St->Prop) (g:Option Bool) (o:Oper) (os:List Oper) (gs:List (Option (Nat×Bool))) (st:St):Prop:=
 match g with
 |some true=>FU P N I st o (AL4 P N I Q os gs)
 |some false=>AL4 P N I Q os gs (putO st o.dst (.tup []))
 |none=>False
section
variable {P : Program} {e : En} {k0 : Kx} {N : Nat} {I : List Nat} {st : St} {Q : Exit → St → Prop} {ops : Array Oper}
end
section
variable {P : Program} {N : Nat} {I : List Nat} {Q : St → Prop} {st : St} {o : Oper} {os : List Oper} {g : Option (Nat × Bool)} {gs : List (Option (Nat × Bool))}
theorem Ii:AL4 P N I Q [] gs st=Q st:=by cases gs<;>rfl
theorem Hv:AL4 P N I Q (o::os) (g::gs) st=IJ P N I Q (gd g st) o os gs st:=rfl
theorem IK:IJ P N I Q (some true) o os gs st=FU P N I st o (AL4 P N I Q os gs):=rfl
theorem IL:IJ P N I Q (some false) o os gs st=AL4 P N I Q os gs (putO st o.dst (.tup [])):=rfl
end
def SE:=And.intro @Ii (And.intro @Hv (And.intro @IK (And.intro @IL (And.intro @FU.eq_def (And.intro @GU.eq_def (And.intro @z2T.eq_def SD))))))
theorem Gc {P:Program} {e:En} {k0:Kx} {N:Nat} {st:St} {Q:Exit->St->Prop} {x y:Code} (M:St->Prop) (h:Awp P e k0 N x (iO (fun st'=>∀c Q',(∀st2,M st2->Awp P e k0 N c Q' st2)->Awp P e k0 N c Q' st') Q) st) (h2:∀st2,M st2->Awp P e k0 N y Q st2):Awp P e k0 N (.seq x y) Q st:=by
 refine rG (oE h fun ex st' hq=>?_);cases ex with
 |normal=>exact hq y Q h2
 |_=>exact hq
section
variable {P : Program} {e : En} {k0 : Kx} {N : Nat} {st : St} {a : Act} {w : World} {Q : Exit → St → Prop} {c : Code}
end
section
variable {P : Program} {e : En} {k0 : Kx} {N : Nat} {I : List Nat} {st st' : St} {a : Act} {w : World} {o : Oper} {p : Prop} {d : Nat} {K : Act → World → Prop} {Q : Exit → Act → World → Prop}
end
section
variable {P : Program} {e : En} {k0 : Kx} {N : Nat} {I : List Nat} {st : St} {Q : Exit → St → Prop} {ops : Array Oper}
end
section
variable {P : Program} {N : Nat} {I : List Nat} {Q : St → Prop} {st : St} {o : Oper} {os : List Oper} {g : Option (Nat × Bool)} {gs : List (Option (Nat × Bool))}
end
end Go.Proofs.YtcgpghifhehlhaaGreatDoor
