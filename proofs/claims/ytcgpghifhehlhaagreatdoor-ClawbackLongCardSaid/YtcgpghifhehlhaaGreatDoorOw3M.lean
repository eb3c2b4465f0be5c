/- The builder of groups, what it builds the caller's own; walked by the abstract machine. -/
import Derived.Test.YtcgpghifhehlhaaGreatDoorSplM
import Derived.Test.YtcgpghifhehlhaaGreatDoorAbGM
import Derived.Test.YtcgpghifhehlhaaGreatDoorRw5M
import Derived.Test.YtcgpghifhehlhaaGreatDoorAbBM
import Derived.Test.YtcgpghifhehlhaaGreatDoorLawM
import Derived.Test.YtcgpghifhehlhaaGreatDoorLftM
set_option linter.unusedVariables false
set_option linter.unusedSimpArgs false
namespace Go.Proofs.YtcgpghifhehlhaaGreatDoor
open Go Go.RowKit


structure GCls where
 est:Int
 rank:Int
 small:Bool
 claims:List Int




end Go.Proofs.YtcgpghifhehlhaaGreatDoor
namespace Go.Proofs.YtcgpghifhehlhaaGreatDoor
open Go.RowKit
def RL (w:World) (v:Value) (l:List GRat):Prop:=ax 3 x6 w (LT w.heap.size) [v] l
theorem RL.below {w w':World} {v:Value} {l:List GRat} (h:RL w v l) (hb:Below w.heap.size w w'):RL w' v l:=(aF KB).below h hb hb.size
theorem RL.drew {w:World} {v:Value} {l:List GRat} (h:RL w v l):RL w.drew v l:=h
theorem RL.open {w:World} {v:Value} {l:List GRat} (h:RL w v l):
  ∃a cap,v= .slice a l.length cap/\l.length<=9223372036854775807/\(l=[]∨∃b off,a=some ⟨b,off,none⟩/\b<w.heap.size/\∀j (h:j<l.length),w.cell? ⟨b,off+j*3,none⟩=some (.bool l[j].neg)/\w.cell? ⟨b,off+j*3+1,none⟩=some (.string l[j].num)/\w.cell? ⟨b,off+j*3+2,none⟩=some (.string l[j].den)/\sB maxLen l[j]):=by
 obtain ⟨a,cap,hv,h1,h2,h3,h4⟩:=h;simp only [List.cons.injEq,and_true] at hv;refine ⟨a,cap,hv,dX h1 h2,?_⟩;rcases h4 with h4|⟨b,off,h5,h6,h7⟩
 ·exact .inl h4
 refine .inr ⟨b,off,h5,h6,fun j hj=>?_⟩;obtain ⟨cs,k1,k2,rfl,k3,k4⟩:=h7 j hj;exact ⟨k2 0 (by decide),k2 1 (by decide),k2 2 (by decide),k3,k4⟩
theorem vZ (w:World) (S:Nat->Prop) (r:GRat) (h:sB maxLen r):x6 w S [.bool r.neg,.string r.num,.string r.den] r:=⟨rfl,h.1,h.2⟩
def iS (rs:List GRat) (j:Nat):Value:=if j%3=0 then .bool (rs.getD (j/3) gZ).neg else if j%3=1 then .string (rs.getD (j/3) gZ).num else .string (rs.getD (j/3) gZ).den
def OwnR (w:World) (g n:Nat) (rs:List GRat):Prop:=rs.length=n/\Own w g 32 (n*3) (iS rs)
theorem Hw (rs:List GRat) (k:Nat):iS rs (k*3)= .bool (rs.getD k gZ).neg:=by
 unfold iS;rw [if_pos (by omega),show k*3/3=k by omega]
theorem Hx (rs:List GRat) (k:Nat):iS rs (k*3+1)= .string (rs.getD k gZ).num:=by
 unfold iS;rw [if_neg (by omega),if_pos (by omega),show (k*3+1)/3=k by omega]
theorem wg (rs:List GRat) (k:Nat):iS rs (k*3+2)= .string (rs.getD k gZ).den:=by
 unfold iS;rw [if_neg (by omega),if_neg (by omega),show (k*3+2)/3=k by omega]
theorem OwnR.facts {w:World} {g n:Nat} {rs:List GRat} (h:OwnR w g n rs) {k:Nat} (hk:k<n):
  w.cell? ⟨g,k*3,none⟩=some (.bool (rs.getD k gZ).neg)/\w.cell? ⟨g,k*3+1,none⟩=some (.string (rs.getD k gZ).num)/\w.cell? ⟨g,k*3+2,none⟩=some (.string (rs.getD k gZ).den)/\(∀j,w.frozen? ⟨g,j,none⟩=false)/\g<w.heap.size:=by
 have h1:=h.2.cell (j:=k*3) (by omega);have h2:=h.2.cell (j:=k*3+1) (by omega);have h3:=h.2.cell (j:=k*3+2) (by omega);rw [Hw] at h1;rw [Hx] at h2;rw [wg] at h3;exact ⟨h1,h2,h3,fun j=>h.2.frozen j,h.2.lt⟩
theorem OwnR.put {w:World} {g n:Nat} {rs:List GRat} (h:OwnR w g n rs) {k:Nat} (hk:k<n) (r:GRat):
  OwnR (((w.setCell ⟨g,k*3,none⟩ (.bool r.neg)).setCell ⟨g,k*3+1,none⟩ (.string r.num)).setCell ⟨g,k*3+2,none⟩ (.string r.den)) g n (rs.set k r):=by
 refine ⟨by rw [List.length_set];exact h.1,(((h.2.set _ _).set _ _).set _ _).congr fun j hj=>?_⟩;have hk':k<rs.length:=by rw [h.1];exact hk
 unfold upd;by_cases e2:j=k*3+2
 ·rw [if_pos e2,e2,wg];simp [List.getD,hk']
 rw [if_neg e2];by_cases e1:j=k*3+1
 ·rw [if_pos e1,e1,Hx];simp [List.getD,hk']
 rw [if_neg e1];by_cases e0:j=k*3
 ·rw [if_pos e0,e0,Hw];simp [List.getD,hk']
 rw [if_neg e0];have hne:¬k=j/3:=by omega
 unfold iS;simp [List.getD,hne]
theorem OwnR.below {w w':World} {g n:Nat} {rs:List GRat} (h:OwnR w g n rs) (hb:Below w.heap.size w w'):OwnR w' g n rs:=⟨h.1,h.2.below hb h.2.lt⟩
theorem OwnR.alloc {w:World} {g n:Nat} {rs:List GRat} (h:OwnR w g n rs) (o:Obj):OwnR (w.alloc o) g n rs:=⟨h.1,h.2.alloc o⟩
theorem OwnR.drew {w:World} {g n:Nat} {rs:List GRat} (h:OwnR w g n rs):OwnR w.drew g n rs:=h
theorem OwnR.other {w:World} {g g' n:Nat} {rs:List GRat} (h:OwnR w g n rs) (hne:g'≠g) (r:GRat):OwnR (lz w g' r) g n rs:=⟨h.1,((h.2.other hne _ _).other hne _ _).other hne _ _⟩
theorem OwnR.new (w:World) (n:Nat):OwnR (w.alloc (.cells (madeCells #[.bool false,.string {data:= #[]},.string {data:= #[]}] (n*3)) 32)) w.heap.size n (List.replicate n gZ):=by
 refine ⟨by simp,?_⟩;unfold Own;rw [heap_alloc_new];congr 2;apply Array.ext
 ·simp [madeCells]
 intro i h1 h2;have hi:i<n*3:=by simpa using h2
 have e:(List.replicate n gZ).getD (i/3) gZ=gZ:=by simp [List.getD,List.getElem?_replicate];split<;>rfl
 simp only [madeCells,Array.getElem_map,Array.getElem_range,iS,e];have:i%3=0∨i%3=1∨i%3=2:=by omega
 rcases this with h|h|h<;>simp [h]<;>rfl
theorem OwnR.reads {w:World} {g n:Nat} {rs:List GRat} (h:OwnR w g n rs) (hn:n<=maxLen) (hs:∀r∈rs,sB maxLen r):RL w (.slice (some ⟨g,0,none⟩) n n) rs:=by
 refine ⟨some ⟨g,0,none⟩,n,by rw [h.1],by rw [h.1];exact Nat.le_refl _,hn,by simp,.inr ⟨g,0,rfl,h.2.lt,fun j hj=>⟨[.bool rs[j].neg,.string rs[j].num,.string rs[j].den],rfl,?_,vZ _ _ _ (hs _ (List.getElem_mem hj))⟩⟩⟩;intro c hc;obtain ⟨f0,f1,f2,_⟩:=h.facts (k:=j) (by rw [←h.1];exact hj);have e:rs.getD j gZ=rs[j]:=by simp [List.getD,hj]
 rw [e] at f0 f1 f2;have:c=0∨c=1∨c=2:=by omega
 rcases this with rfl|rfl|rfl
 ·simpa using f0
 ·simpa using f1
 simpa using f2
end Go.Proofs.YtcgpghifhehlhaaGreatDoor
