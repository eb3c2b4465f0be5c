/- The builders Pick and Choose; walked by the abstract machine. -/
import Derived.Test.YtokmkopihhnggaaGreatDoorCs4M
import Derived.Test.YtokmkopihhnggaaGreatDoorCg3M
import Derived.Test.YtokmkopihhnggaaGreatDoorCg4M
set_option linter.unusedVariables false
set_option linter.unusedSimpArgs false
set_option linter.unusedSectionVars false
namespace Go.Proofs.YtokmkopihhnggaaGreatDoor
open Go Go.RowKit

def prE (Q:GRat->Prop) (e:GEst):Prop:=Q e.cash/\(∀c∈e.claims,Q c.amount)/\∀a∈e.agrs,∀t∈a,∀p∈t,Q p.cap
section
variable {Q : GRat → Prop} (h0 : Q gZ) (h1 : ∀ x, Q (enc (kG x))) (h2 : ∀ n : Nat, n < 9 → Q (enc (((n : Nat) : Int) : Rat)))
include h0 h2
theorem NL (e:GEst) (p:N3):∀t∈bgN e p,∀q∈t,Q q.cap:=by
 have k1:tOK (fun q=>Q q.cap) (bgT p (bgL e.agrs p e.claims 0 ⟨[],[],[]⟩)):=by
  have k2:=LD (Q:=fun q=>Q q.cap) e.agrs p e.claims.length (fun i _ _=>by
   unfold bgP;split
   ·exact h2 _ (Nat.mod_lt _ (by decide))
   exact h0) e.claims 0 ⟨[],[],[]⟩ (by omega) ⟨by simp,by simp,by simp⟩
  unfold bgT;split
  ·exact LC _ _ _ k2 (h2 _ (Nat.lt_of_lt_of_le (Nat.mod_lt _ (by decide)) (by decide)))
  exact k2
 intro t ht q hq;simp only [bgN,List.mem_cons,List.not_mem_nil,or_false] at ht;rcases ht with rfl|rfl|rfl
 ·exact k1.1 q hq
 ·exact k1.2.1 q hq
 exact k1.2.2 q hq
include h1
theorem Np (n:Nat) (cash:List Nat) (list:List N4) (pools:List N3):∀e∈JC n cash list pools,prE Q e:=by
 unfold JC;refine zr (Pr:=fun es:List GEst=>∀e∈es,prE Q e) _ (fun es p h=>?_) _ _ (zr (Pr:=fun es:List GEst=>∀e∈es,prE Q e) _ (fun es x h=>?_) _ _ fun e he=>?_)
 ·unfold xD;split
  ·refine Kt h _ _ fun hj=>?_
   rw [Jo _ _ hj];obtain ⟨k1,k2,k3⟩:=h _ (List.getElem_mem hj);refine ⟨k1,k2,fun a ha=>?_⟩;rcases List.mem_append.1 ha with ha|ha
   ·exact k3 a ha
   obtain rfl:=List.mem_singleton.1 ha;exact NL h0 h2 _ p
  exact h
 ·unfold gn;split
  ·exact h
  refine Kt h _ _ fun hj=>?_
  rw [Jo _ _ hj];obtain ⟨k1,k2,k3⟩:=h _ (List.getElem_mem hj);refine ⟨k1,fun c hc=>?_,k3⟩;rcases List.mem_append.1 hc with hc|hc
  ·exact k2 c hc
  obtain rfl:=List.mem_singleton.1 hc;exact h1 x.d
 obtain ⟨i,_,rfl⟩:=List.mem_map.1 he;refine ⟨?_,by simp [kY],by simp [kY]⟩;unfold kY;dsimp only;split
 ·exact h1 _
 exact h0
theorem Nr (n:Nat) (cash:List Nat) (list:List N4) (pools debts:List N3):∀d∈(Kj n cash list pools debts).debts,Q d.whole:=by
 unfold Kj;dsimp only;refine zr (Pr:=fun ds:List GDebt=>∀d∈ds,Q d.whole) _ (fun ds p h=>?_) _ _ (by simp);unfold s9;split
 ·intro d hd;rcases List.mem_append.1 hd with hd|hd
  ·exact h d hd
  obtain rfl:=List.mem_singleton.1 hd;exact h1 p.c
 exact h
end
def xE (e:GEst):Prop:=okB e/\prE (sB 1) e
def xG (g:GGrp):Prop:=g.ests.length<=8/\(∀e∈g.ests,xE e)/\g.debts.length<=3/\∀d∈g.debts,sB 1 d.whole/\d.legs.length<=4
theorem MU:sB 1 gZ:=⟨by decide,by decide⟩
theorem LJ (n:Nat) (h:n<9):sB 1 (enc (((n:Nat):Int):Rat)):=by
 refine dT ⟨?_,?_⟩
 ·have:((((n:Nat):Int):Rat)).num=(n:Int):=rfl;rw [this];simp;omega
 have:((((n:Nat):Int):Rat)).den=1:=rfl;rw [this];decide
theorem NM (n:Nat) (cash:List Nat) (list:List N4) (pools debts:List N3):xG (Kj n cash list pools debts):=by
 obtain ⟨_,k2,k3⟩:=LA n cash list pools debts;have k4:=Mt n cash list pools;have k5:=KO n cash list pools;have k6:=Np (Q:=sB 1) MU (fun x=>dT (na x)) LJ n cash list pools;have k7:=Nr (Q:=sB 1) MU (fun x=>dT (na x)) LJ n cash list pools debts;exact ⟨by show (JC n cash list pools).length<=8;omega,fun e he=>⟨k5 e he,k6 e he⟩,k2,fun d hd=>⟨k7 d hd,k3 d hd⟩⟩
theorem K8 {r:GRat} (h:sB 1 r):cqR r:=⟨Nat.le_trans h.1 (by decide),Nat.le_trans h.2 (by decide)⟩
theorem K9 {r:GRat} (h:sB 1 r):jh r:=⟨Nat.le_trans h.1 (by decide),Nat.le_trans h.2 (by decide)⟩
theorem Nw {g:GGrp} (h:xG g):cqG g:=by
 obtain ⟨h1,h2,h3,h4⟩:=h;refine ⟨by omega,fun e he=>?_,by omega,fun d hd=>⟨K8 (h4 d hd).1,by have:=(h4 d hd).2;omega⟩⟩;obtain ⟨⟨a1,a2,a3⟩,b1,b2,b3⟩:=h2 e he;exact ⟨K8 b1,by omega,fun c hc=>K8 (b2 c hc),by omega,fun a ha=>⟨by have:=(a3 a ha).1;omega,fun t ht=>⟨by have:=(a3 a ha).2 t ht;omega,fun p hp=>K8 (b3 a ha t ht p hp)⟩⟩⟩
theorem N6 {g:GGrp} (h:xG g):Lo g:=by
 obtain ⟨h1,h2,h3,h4⟩:=h;refine ⟨fun e he=>?_,fun d hd=>K9 (h4 d hd).1⟩;obtain ⟨⟨a1,a2,a3⟩,b1,b2,b3⟩:=h2 e he;exact ⟨K9 b1,fun c hc=>K9 (b2 c hc),by omega,fun a ha=>⟨fun t ht=>by have:=(a3 a ha).2 t ht;omega,fun p hp=>by
  obtain ⟨t,ht,hp⟩:=List.mem_flatten.1 hp;exact K9 (b3 a ha t ht p hp)⟩⟩
theorem N7 {g:GGrp} (h:xG g):sgG g:=by
 obtain ⟨h1,h2,h3,h4⟩:=h;refine ⟨by omega,fun e he=>?_,by omega,fun d hd=>by have:=(h4 d hd).2;omega⟩;obtain ⟨⟨a1,a2,a3⟩,_⟩:=h2 e he;exact ⟨by omega,by omega,fun a ha=>⟨by have:=(a3 a ha).1;omega,fun t ht=>by have:=(a3 a ha).2 t ht;omega⟩⟩
theorem MV {o:GOpt} (h:opG o):sB 1 o.amount:=by
 obtain ⟨⟨q,hq,hb,_⟩,_⟩:=h;rw [hq];exact dT hb
theorem NN {l:List GDisp} (hl:l.length<=1000000) (h:∀d∈l,okD d):cqD l:=by
 refine ⟨⟨hl,fun d hd=>⟨by have:=(h d hd).2.1;omega,fun x hx=>K9 (MV ((h d hd).2.2 x hx))⟩⟩,fun d hd x hx=>K8 (MV ((h d hd).2.2 x hx))⟩
theorem NO {e:GEst} (h:sgE e):sgE (clE e):=by
 obtain ⟨h1,h2,h3⟩:=h;refine ⟨by simpa [clE] using h1,by simpa [clE] using h2,fun a ha=>?_⟩;obtain ⟨b,hb,rfl⟩:=List.mem_map.1 ha;refine ⟨by simpa [clA] using (h3 b hb).1,fun t ht=>?_⟩;obtain ⟨u,hu,rfl⟩:=List.mem_map.1 ht;simpa [clT] using (h3 b hb).2 u hu
theorem NP {e:GEst} (h:sgE e) (k:Nat) (o:GOpt):sgE (stC e k o):=⟨by simpa [stC] using h.1,h.2.1,h.2.2⟩
theorem N8 {es:List GEst} (h:es.length<=1000000000000/\∀e∈es,sgE e) (i k:Nat) (o:GOpt):(stE es i k o).length<=1000000000000/\∀e∈stE es i k o,sgE e:=
 ⟨by rw [Ni];exact h.1,Kt h.2 _ _ fun hi=>by rw [Jo es i hi];exact NP (h.2 _ (List.getElem_mem hi)) k o⟩
theorem N9 {g:GGrp} (h:sgG g):((clG g).ests.length<=1000000000000/\∀e∈(clG g).ests,sgE e)/\(clG g).debts.length<=1000000000000/\∀d∈(clG g).debts,d.legs.length<=1000000000000:=by
 obtain ⟨h1,h2,h3,h4⟩:=h;refine ⟨⟨by simpa [clG] using h1,fun e he=>?_⟩,by simpa [clG] using h3,fun d hd=>?_⟩
 ·obtain ⟨x,hx,rfl⟩:=List.mem_map.1 he;exact NO (h2 x hx)
 obtain ⟨x,hx,rfl⟩:=List.mem_map.1 hd;exact h4 x hx
theorem Kz:sgG ⟨[],[]⟩:=⟨by simp,by simp,by simp,by simp⟩
theorem NQ {g:GGrp} (h:sgG g) (dc:Int) (l:List GDisp) (hl:l.length<=1000000000000/\∀d∈l,d.opts.length<=1000000000000) (i o:Int):
  sgG (dcG dc g l i o).1/\((dcG dc g l i o).2.1.length<=1000000000000/\∀d∈(dcG dc g l i o).2.1,d.opts.length<=1000000000000):=by
 obtain ⟨h1,h2,h3⟩:=N9 h;unfold dcG;split
 ·split
  ·split
   ·obtain ⟨k1,k2⟩:=N8 h1 (l.getD i.toNat default).est.toNat (l.getD i.toNat default).cl.toNat ((l.getD i.toNat default).opts.getD o.toNat default);refine ⟨⟨k1,k2,h2,h3⟩,?_,fun d hd=>?_⟩
    ·rw [List.length_map];exact Nat.le_trans (List.eraseIdx_sublist l i.toNat).length_le hl.1
    obtain ⟨x,hx,rfl⟩:=List.mem_map.1 hd;simpa [nt] using hl.2 x ((List.eraseIdx_sublist l i.toNat).subset hx)
   exact ⟨Kz,by simp,by simp⟩
  exact ⟨Kz,by simp,by simp⟩
 exact ⟨Kz,by simp,by simp⟩
end Go.Proofs.YtokmkopihhnggaaGreatDoor
