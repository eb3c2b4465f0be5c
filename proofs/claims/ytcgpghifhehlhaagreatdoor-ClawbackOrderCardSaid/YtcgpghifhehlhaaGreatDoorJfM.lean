/- The facts of a card, apart. No program in sight. -/
import Derived.JoinedCond
import Derived.WalkKit
import Derived.WalkSpells
import Derived.WalkLawsBesides
set_option linter.unusedVariables false
set_option linter.unusedSimpArgs false
namespace Go.Proofs.YtcgpghifhehlhaaGreatDoor
open Go
def jf1 (P:Program) (fn:Func) (s:ChangeSpec) (c:OpenClaim):Bool:=c.wf (OpenSpec.ofChange s)&&laidOutB P&&mapsRowed P&&fn.params.all (P.readableRec ·)
def jf2 (P:Program) (s:ChangeSpec) (c:OpenClaim):Bool:=namedTie P c.named s.vars&&(c.stops==[])
def jf3 (P:Program) (c:OpenClaim):Bool:=(P.stops==[])&&(c.knobs==[])&&(P.stopKnobs==[])
def jf6 (P : Program) (fn : Func) (s : ChangeSpec) (c : OpenClaim) : Bool :=
  (c.maps == (fn.params.toList ++ s.plain.varTypes P).any (P.mapsRec ·)) && (c.ifaces == (fn.params.toList ++ s.plain.varTypes P).any (P.ifacesRec ·)) && (c.mapsOut == P.mapsAmong fn.resultTypes.toList) &&
      (c.loops == (fn.params.toList ++ s.plain.varTypes P).any (P.loopsFrom ·)) && (c.wideKeys == (fn.params.toList ++ s.plain.varTypes P ++ fn.resultTypes.toList).any (P.wideKeysFrom ·)) &&
      s.vars.all (P.varReadable ·) && fn.resultTypes.all (fun t => P.readableRec t && decide (t < P.types.size)) && (c.ifacesOut == fn.resultTypes.toList.any (P.ifacesRec ·)) && (c.loopsOut == fn.resultTypes.toList.any (P.loopsFrom ·))
def jf8 (P:Program) (c:OpenClaim):Bool:=c.shortTexts.isNone&&P.stopsHeard
def xZ (P:Program) (fn:Func) (s:ChangeSpec) (c:OpenClaim):Bool:=
 (P.make==some c.make)&&(c.kinds==(if c.domain.isEmpty then [] else fn.params.toList.map fun t=>match P.underlying t with|some (.int k)=>some k|_=>none))&&(c.pinned==c.pinnedBy)
def x5 (P:Program) (fn:Func) (s:ChangeSpec) (c:OpenClaim):Bool:=
 (c.veiled==(fn.params.toList++s.plain.varTypes P++fn.resultTypes.toList).any (P.veiledRec ·))&&c.veiledFits P fn.params.toList (fn.params.toList++s.plain.varTypes P++fn.resultTypes.toList)
theorem zb {P:Program} {f:FuncId} {fn:Func} {s:ChangeSpec} {c:OpenClaim} (h1:jf1 P fn s c=true) (h1b:jf2 P s c=true) (h1c:jf3 P c=true)
  (h2:(c.inPlace==P.inPlace f)=true) (h3:(c.unfollowed==P.unfollowed f)=true) (h4:(c.recurses==P.recurses f)=true) (h5:(c.named==P.varsNamed f)=true)
  (h6:jf6 P fn s c=true) (h7:(c.plainKeys==P.plainKeys)=true) (h8:jf8 P c=true) (h9:P.mayEnter=true) (h10:(c.lifted==P.liftsFinal)=true)
  (h11:xZ P fn s c=true) (h12:x5 P fn s c=true):joinedFacts P f fn s c=true:=by
 unfold jf1 at h1;unfold jf2 at h1b;unfold jf3 at h1c;unfold jf6 at h6;unfold jf8 at h8;unfold xZ at h11;unfold x5 at h12;unfold joinedFacts;simp only [Bool.and_eq_true] at *
 simp only [h1,h1b,h1c,h2,h3,h4,h5,h6,h7,h8,h9,h10,h12,and_self,true_and,and_true];exact h11
end Go.Proofs.YtcgpghifhehlhaaGreatDoor
section
/- Demands merged: sums by key, what two ways of merging come to. No program in sight. -/
namespace Go.Proofs.YtcgpghifhehlhaaGreatDoor
structure Dem where
 deb:Int
 par:Int
 gnd:Int
 cts:Int
deriving DecidableEq,Inhabited
def klt (a b:Dem):Prop:=a.deb<b.deb∨(a.deb=b.deb/\(a.par<b.par∨(a.par=b.par/\a.gnd<b.gnd)))
def keq (a b:Dem):Prop:=a.deb=b.deb/\a.par=b.par/\a.gnd=b.gnd
instance (a b:Dem):Decidable (klt a b):=by unfold klt;infer_instance
instance (a b:Dem):Decidable (keq a b):=by unfold keq;infer_instance
theorem IA (a b:Dem):klt a b∨keq a b∨klt b a:=by unfold klt keq;omega
theorem FB {a b c:Dem} (h:klt a b) (k:klt b c):klt a c:=by unfold klt at *;omega
theorem FC {a b:Dem} (h:klt a b):¬keq a b:=by unfold klt keq at *;omega
theorem Fv {a b:Dem} (h:klt a b):¬klt b a:=by unfold klt at *;omega
theorem Gv {a b:Dem} (h:keq a b):keq b a:=by unfold keq at *;omega
theorem FD {a b c:Dem} (h:keq a b) (k:keq b c):keq a c:=by unfold keq at *;omega
theorem IB {a b c:Dem} (h:keq a b) (k:klt b c):klt a c:=by unfold klt keq at *;omega
theorem Hi {a b c:Dem} (h:klt a b) (k:keq b c):klt a c:=by unfold klt keq at *;omega
theorem rm {a b c:Dem} (h:¬klt b a) (k:¬klt c b):¬klt c a:=by unfold klt at *;omega
theorem IC {a b c:Dem} (h:¬klt b a) (k:klt b c):klt a c:=by unfold klt at *;omega
def ed (k:Dem):List Dem->Int
 |[]=>0
 |d::l=>(if keq k d then d.cts else 0)+ed k l
def FG:List Dem->Int
 |[]=>0
 |d::l=>d.cts+FG l
theorem uc (k:Dem):∀l m,ed k (l++m)=ed k l+ed k m
 |[],m=>by simp [ed]
 |d::l,m=>by simp only [List.cons_append,ed,uc k l m];omega
theorem um:∀l m,FG (l++m)=FG l+FG m
 |[],m=>by simp [FG]
 |d::l,m=>by simp only [List.cons_append,FG,um l m];omega
theorem wd (k:Dem):∀l,(∀x∈l,¬keq k x)->ed k l=0
 |[],_=>rfl
 |d::l,h=>by
  simp only [ed];rw [if_neg (h d (by simp)),wd k l fun x hx=>h x (by simp [hx])];rfl
theorem G7 (k:Dem) {l m:List Dem} (h:l.Perm m):ed k l=ed k m:=by
 induction h with
 |nil=>rfl
 |cons x _ ih=>simp only [ed,ih]
 |swap x y l=>simp only [ed];omega
 |trans _ _ ih1 ih2=>exact ih1.trans ih2
def Mrg (l:List Dem):Prop:=l.Pairwise klt/\∀d∈l,0<d.cts
theorem FK {a:Dem} {l:List Dem} (h:Mrg (a::l)):ed a (a::l)=a.cts/\0<a.cts/\∀x∈l,klt a x:=by
 have h1:=List.pairwise_cons.1 h.1;refine ⟨?_,h.2 a (by simp),h1.1⟩;simp only [ed];rw [if_pos ⟨rfl,rfl,rfl⟩,wd a l fun x hx=>FC (h1.1 x hx)];omega
theorem Gw : ∀ l m, Mrg l → Mrg m → (∀ k, ed k l = ed k m) → l = m
  | [], [], _, _, _ => rfl
  | [], b :: m, _, hm, hk => by
    have h1 := FK hm
    have h2 := hk b
    simp only [ed] at h1 h2; omega
  | a :: l, [], hl, _, hk => by
    have h1 := FK hl
    have h2 := hk a
    simp only [ed] at h1 h2; omega
  | a :: l, b :: m, hl, hm, hk => by
    have h1 := FK hl
    have h2 := FK hm
    have hl' : Mrg l := ⟨(List.pairwise_cons.1 hl.1).2, fun d hd => hl.2 d (by simp [hd])⟩
    have hm' : Mrg m := ⟨(List.pairwise_cons.1 hm.1).2, fun d hd => hm.2 d (by simp [hd])⟩
    rcases IA a b with h | h | h
    · have h3 : ed a (b :: m) = 0 := wd _ _ fun x hx => by
        rcases List.mem_cons.1 hx with rfl | hx
        · exact FC h
        exact FC (FB h (h2.2.2 x hx))
      have := hk a; omega
    · have h3 : ed a (b :: m) = b.cts := by
        simp only [ed]
        rw [if_pos h, wd a m fun x hx => FC (IB h (h2.2.2 x hx))]; omega
      have h4 : a.cts = b.cts := by have := hk a; omega
      have hab : a = b := by
        obtain ⟨a1, a2, a3, a4⟩ := a
        obtain ⟨b1, b2, b3, b4⟩ := b
        obtain ⟨e1, e2, e3⟩ := h
        simp only at e1 e2 e3 h4
        subst e1 e2 e3 h4; rfl
      subst hab
      rw [Gw l m hl' hm' fun k => by have := hk k; simp only [ed] at this; omega]
    have h3 : ed b (a :: l) = 0 := wd _ _ fun x hx => by
      rcases List.mem_cons.1 hx with rfl | hx
      · exact FC h
      exact FC (FB h (h1.2.2 x hx))
    have := hk b; omega
def rx (out:List Dem) (d:Dem):List Dem:=match out.getLast? with
 |some x=>if keq x d then out.set (out.length-1) ⟨x.deb,x.par,x.gnd,x.cts+d.cts⟩ else out++[d]
 |none=>[d]
theorem Ga (d:Dem):rx [] d=[d]:=rfl
theorem FQ (o:List Dem) (x d:Dem):rx (o++[x]) d=if keq x d then o++[⟨x.deb,x.par,x.gnd,x.cts+d.cts⟩] else o++[x,d]:=by
 unfold rx;rw [List.getLast?_append];simp only [List.getLast?_singleton,Option.some_or];split
 ·rw [List.length_append,List.length_singleton,Nat.add_sub_cancel,List.set_append_right _ _ (Nat.le_refl _),Nat.sub_self];rfl
 simp
theorem Ih (M:Int) (out:List Dem) (d:Dem) (h1:out.Pairwise klt) (h2:∀x∈out,¬klt d x) (h3:∀x∈out,0<=x.cts/\x.cts<=M) (m:Int) (hd:0<=d.cts/\d.cts<=m) (hm:0<=M):
  (rx out d).Pairwise klt/\(∀e,¬klt e d->(∀x∈out,¬klt e x)->∀x∈rx out d,¬klt e x)/\(∀x∈rx out d,0<=x.cts/\x.cts<=M+m)/\(∀k,ed k (rx out d)=ed k out+(if keq k d then d.cts else 0))/\FG (rx out d)=FG out+d.cts/\(rx out d).length<=out.length+1:=by
 rcases List.eq_nil_or_concat out with rfl|⟨o,x,rfl⟩
 ·rw [Ga];refine ⟨by simp,fun e he _ x hx=>by simp at hx;subst hx;exact he,fun x hx=>by simp at hx;subst hx;omega,fun k=>by simp [ed],by simp [FG],by simp⟩
 rw [List.concat_eq_append] at h1 h2 h3 ⊢;rw [FQ];have hp:=List.pairwise_append.1 h1;have hx:=h3 x (by simp);split
 ·rename_i hk;refine ⟨List.pairwise_append.2 ⟨hp.1,by simp,fun a ha b hb=>by
   simp at hb;subst hb
   exact hp.2.2 a ha x (by simp)⟩,fun e he ho y hy=>?_,fun y hy=>?_,fun k=>?_,?_,by simp⟩
  ·rcases List.mem_append.1 hy with hy|hy
   ·exact ho y (by simp [hy])
   simp at hy;subst hy;exact ho x (by simp)
  ·rcases List.mem_append.1 hy with hy|hy
   ·have:=h3 y (by simp [hy]);omega
   simp at hy;subst hy;simp only;omega
  ·rw [uc,uc];simp only [ed];have e1:keq k ⟨x.deb,x.par,x.gnd,x.cts+d.cts⟩↔keq k x:=Iff.rfl;have e2:keq k d↔keq k x:=⟨fun h=>FD h (Gv hk),fun h=>FD h hk⟩;simp only [e1,e2];split<;>omega
  rw [um,um];simp only [FG];omega
 rename_i hk;have hlt:klt x d:=by
  rcases IA x d with h|h|h
  ·exact h
  ·exact absurd h hk
  exact absurd h (h2 x (by simp))
 have e3:o++[x,d]=(o++[x])++[d]:=by simp
 rw [e3];refine ⟨List.pairwise_append.2 ⟨h1,by simp,fun a ha b hb=>by
  simp at hb;subst hb
  rcases List.mem_append.1 ha with ha|ha
  ·exact FB (hp.2.2 a ha x (by simp)) hlt
  simp at ha;subst ha;exact hlt⟩,fun e he ho y hy=>?_,fun y hy=>?_,fun k=>?_,?_,by simp⟩
 ·rcases List.mem_append.1 hy with hy|hy
  ·exact ho y hy
  simp at hy;subst hy;exact he
 ·rcases List.mem_append.1 hy with hy|hy
  ·have:=h3 y hy;omega
  simp at hy;subst hy;omega
 ·rw [uc];simp only [ed];omega
 rw [um];simp only [FG];omega
theorem Hj (m:Int) (hm:0<=m):∀(l out:List Dem) (M:Int),0<=M->l.Pairwise (fun a b=>¬klt b a)->out.Pairwise klt->(∀d∈l,∀x∈out,¬klt d x)->(∀x∈out,0<=x.cts/\x.cts<=M)->(∀d∈l,0<=d.cts/\d.cts<=m)->
  (l.foldl rx out).Pairwise klt/\(∀x∈l.foldl rx out,0<=x.cts/\x.cts<=M+l.length*m)/\(∀k,ed k (l.foldl rx out)=ed k out+ed k l)/\FG (l.foldl rx out)=FG out+FG l/\(l.foldl rx out).length<=out.length+l.length
 |[],out,M,hM,_,h1,_,h3,_=>⟨h1,fun x hx=>by have:=h3 x hx;simp;omega,fun k=>by simp [ed],by simp [FG],by simp⟩
 |d::l,out,M,hM,hs,h1,h2,h3,h4=>by
  obtain ⟨a1,a2,a3,a4,a5,a6⟩:=Ih M out d h1 (h2 d (by simp)) h3 m (h4 d (by simp)) hM;have hs':=List.pairwise_cons.1 hs;obtain ⟨b1,b2,b3,b4,b5⟩:=Hj m hm l (rx out d) (M+m) (by omega) hs'.2 a1 (fun e he=>a2 e (hs'.1 e he) (h2 e (by simp [he]))) a3 fun e he=>h4 e (by simp [he])
  rw [List.foldl_cons];refine ⟨b1,fun x hx=>?_,fun k=>?_,?_,?_⟩
  ·have:=b2 x hx;refine ⟨this.1,Int.le_trans this.2 ?_⟩;simp only [List.length_cons,Int.natCast_add,Int.add_mul,Int.natCast_one,Int.one_mul];omega
  ·rw [b3,a4];simp only [ed];omega
  ·rw [b4,a5];simp only [FG];omega
  simp only [List.length_cons];omega
def nz (d:Dem):Bool:=decide (¬d.cts=0)
theorem Gj (k:Dem):∀l,ed k (l.filter nz)=ed k l
 |[]=>rfl
 |d::l=>by
  rw [List.filter_cons];split
  ·simp only [ed,Gj k l]
  rename_i h;have h0:d.cts=0:=by simpa [nz] using h
  simp only [ed,Gj k l,h0];split<;>omega
def Fu (d:Dem):List Dem->List Dem
 |[]=>[d]
 |x::l=>if klt x d then x::Fu d l else if klt d x then d::x::l else ⟨x.deb,x.par,x.gnd,x.cts+d.cts⟩::l
def rb (out:List Dem) (d:Dem):List Dem:=if d.cts=0 then out else Fu d out
theorem Fw (d:Dem):∀l,∀x∈Fu d l,(∃y,(y=d∨y∈l)/\keq y x)/\(x=d∨x∈l∨∃y∈l,x.cts=y.cts+d.cts)
 |[],x,h=>by simp [Fu] at h;subst h;exact ⟨⟨x,.inl rfl,rfl,rfl,rfl⟩,.inl rfl⟩
 |y::l,x,h=>by
  simp only [Fu] at h;split at h
  ·rcases List.mem_cons.1 h with rfl|h
   ·exact ⟨⟨x,by simp,rfl,rfl,rfl⟩,by simp⟩
   obtain ⟨⟨z,hz,hk⟩,hc⟩:=Fw d l x h;refine ⟨⟨z,by rcases hz with hz|hz<;>simp [hz],hk⟩,?_⟩;rcases hc with hc|hc|⟨z,hz,hc⟩
   ·exact .inl hc
   ·exact .inr (.inl (by simp [hc]))
   exact .inr (.inr ⟨z,by simp [hz],hc⟩)
  split at h
  ·rcases List.mem_cons.1 h with rfl|h
   ·exact ⟨⟨x,by simp,rfl,rfl,rfl⟩,.inl rfl⟩
   exact ⟨⟨x,.inr h,rfl,rfl,rfl⟩,.inr (.inl h)⟩
  rcases List.mem_cons.1 h with rfl|h
  ·exact ⟨⟨y,by simp,rfl,rfl,rfl⟩,.inr (.inr ⟨y,by simp,rfl⟩)⟩
  exact ⟨⟨x,by simp [h],rfl,rfl,rfl⟩,.inr (.inl (by simp [h]))⟩
theorem GQ (d:Dem):∀l,l.Pairwise klt->(Fu d l).Pairwise klt/\(∀k,ed k (Fu d l)=ed k l+(if keq k d then d.cts else 0))/\(Fu d l).length<=l.length+1
 |[],_=>⟨by simp [Fu],fun k=>by simp [Fu,ed],by simp [Fu]⟩
 |x::l,h=>by
  have hx:=List.pairwise_cons.1 h;obtain ⟨h1,h2,h3⟩:=GQ d l hx.2;simp only [Fu];split
  ·rename_i hlt;refine ⟨List.pairwise_cons.2 ⟨fun y hy=>?_,h1⟩,fun k=>?_,by simp only [List.length_cons];omega⟩
   ·obtain ⟨⟨z,hz,hk⟩,_⟩:=Fw d l y hy;rcases hz with rfl|hz
    ·exact Hi hlt hk
    exact Hi (hx.1 z hz) hk
   simp only [ed,h2];omega
  split
  ·rename_i hn hlt;refine ⟨List.pairwise_cons.2 ⟨fun y hy=>?_,h⟩,fun k=>by simp only [ed];omega,by simp⟩;rcases List.mem_cons.1 hy with rfl|hy
   ·exact hlt
   exact FB hlt (hx.1 y hy)
  rename_i hn hlt;have hk:keq x d:=by
   rcases IA x d with g|g|g
   ·exact absurd g hn
   ·exact g
   exact absurd g hlt
  refine ⟨List.pairwise_cons.2 ⟨fun y hy=>hx.1 y hy,hx.2⟩,fun k=>?_,by simp⟩;simp only [ed];have e1:keq k ⟨x.deb,x.par,x.gnd,x.cts+d.cts⟩↔keq k x:=Iff.rfl;have e2:keq k d↔keq k x:=⟨fun g=>FD g (Gv hk),fun g=>FD g hk⟩;simp only [e1,e2];split<;>omega
theorem GR (m:Int) (hm:0<=m):∀(l out:List Dem) (M:Int),0<=M->Mrg out->(∀x∈out,x.cts<=M)->(∀d∈l,0<=d.cts/\d.cts<=m)->
  Mrg (l.foldl rb out)/\(∀x∈l.foldl rb out,x.cts<=M+l.length*m)/\(∀k,ed k (l.foldl rb out)=ed k out+ed k l)/\(l.foldl rb out).length<=out.length+l.length
 |[],out,M,hM,h1,h2,_=>⟨h1,fun x hx=>by have:=h2 x hx;simp;omega,fun k=>by simp [ed],by simp⟩
 |d::l,out,M,hM,h1,h2,h3=>by
  have hd:=h3 d (by simp);have key:Mrg (rb out d)/\(∀x∈rb out d,x.cts<=M+m)/\(∀k,ed k (rb out d)=ed k out+(if keq k d then d.cts else 0))/\(rb out d).length<=out.length+1:=by
   unfold rb;split
   ·rename_i h0;exact ⟨h1,fun x hx=>by have:=h2 x hx;omega,fun k=>by rw [h0];simp,by omega⟩
   rename_i h0;obtain ⟨a1,a2,a3⟩:=GQ d out h1.1;refine ⟨⟨a1,fun x hx=>?_⟩,fun x hx=>?_,a2,a3⟩
   ·rcases (Fw d out x hx).2 with rfl|hc|⟨y,hy,hc⟩
    ·omega
    ·exact h1.2 x hc
    have:=h1.2 y hy;omega
   rcases (Fw d out x hx).2 with rfl|hc|⟨y,hy,hc⟩
   ·omega
   ·have:=h2 x hc;omega
   have:=h2 y hy;omega
  obtain ⟨b1,b2,b3,b4⟩:=GR m hm l (rb out d) (M+m) (by omega) key.1 key.2.1 fun e he=>h3 e (by simp [he])
  rw [List.foldl_cons];refine ⟨b1,fun x hx=>?_,fun k=>?_,?_⟩
  ·refine Int.le_trans (b2 x hx) ?_;simp only [List.length_cons,Int.natCast_add,Int.add_mul,Int.natCast_one,Int.one_mul];omega
  ·rw [b3,key.2.2.1];simp only [ed];omega
  simp only [List.length_cons];have:=key.2.2.2;omega
theorem Hk (m:Int) (hm:0<=m) (l s:List Dem) (hp:s.Perm l) (hs:s.Pairwise (fun a b=>¬klt b a)) (h:∀d∈l,0<=d.cts/\d.cts<=m):(s.foldl rx []).filter nz=l.foldl rb []:=by
 obtain ⟨a1,a2,a3,_,_⟩:=Hj m hm s [] 0 (by omega) hs (by simp) (by simp) (by simp) fun d hd=>h d (hp.mem_iff.1 hd)
 obtain ⟨b1,_,b3,_⟩:=GR m hm l [] 0 (by omega) ⟨by simp,by simp⟩ (by simp) h;refine Gw _ _ ⟨a1.filter _,fun d hd=>?_⟩ b1 fun k=>?_
 ·obtain ⟨h1,h2⟩:=List.mem_filter.1 hd;have:=(a2 d h1).1;have h0:¬d.cts=0:=by simpa [nz] using h2
  omega
 rw [Gj,a3,b3,G7 k hp]
theorem Ji (m:Int) (hm:0<=m) (l l':List Dem) (hp:l.Perm l') (h:∀d∈l,0<=d.cts/\d.cts<=m):l.foldl rb []=l'.foldl rb []:=by
 obtain ⟨a1,_,a3,_⟩:=GR m hm l [] 0 (by omega) ⟨by simp,by simp⟩ (by simp) h;obtain ⟨b1,_,b3,_⟩:=GR m hm l' [] 0 (by omega) ⟨by simp,by simp⟩ (by simp) fun d hd=>h d (hp.mem_iff.2 hd)
 exact Gw _ _ a1 b1 fun k=>by rw [a3,b3,G7 k hp]
end Go.Proofs.YtcgpghifhehlhaaGreatDoor
end
section
/- Sorting by swaps: swaps, ranges exchanged, rotations, merging in place; what they come to. No program in sight. -/
namespace Go.Proofs.YtcgpghifhehlhaaGreatDoor
def at9 (l:List Dem) (i:Nat):Dem:=l.getD i default
def swd (l:List Dem) (i j:Nat):List Dem:=(l.set i (at9 l j)).set j (at9 l i)
theorem dx {l:List Dem} {i:Nat} (h:i<l.length):at9 l i=l[i]:=by
 unfold at9;rw [List.getD_eq_getElem?_getD,List.getElem?_eq_getElem h];rfl
theorem FE {l:List Dem} {i j:Nat} (hi:i<l.length) (hj:j<l.length) (p:Nat):at9 (swd l i j) p=if p=j then at9 l i else if p=i then at9 l j else at9 l p:=by
 unfold swd;show List.getD _ p default=_;rw [List.getD_eq_getElem?_getD,List.getElem?_set,List.getElem?_set,List.length_set];by_cases h1:p=j
 ·rw [if_pos h1.symm,if_pos hj,if_pos h1];rfl
 rw [if_neg (fun h=>h1 h.symm),if_neg h1];by_cases h2:p=i
 ·rw [if_pos h2.symm,if_pos hi,if_pos h2];rfl
 rw [if_neg (fun h=>h2 h.symm),if_neg h2];unfold at9;rw [List.getD_eq_getElem?_getD]
theorem Gf (x y:Dem):∀(t:List Dem) (j:Nat),t[j]? =some y->(y::t.set j x).Perm (x::t)
 |[],j,h=>by simp at h
 |z::t,0,h=>by
  simp at h;subst h
  exact List.Perm.swap _ _ _
 |z::t,j+1,h=>by
  have ih:=Gf x y t j (by simpa using h);exact (List.Perm.swap _ _ _).trans ((List.Perm.cons z ih).trans (List.Perm.swap _ _ _))
theorem FR:∀(l:List Dem) (i j:Nat),i<j->j<l.length->(swd l i j).Perm l
 |[],_,_,_,h=>by simp at h
 |x::t,0,j+1,_,h=>by
  have hj:j<t.length:=by simpa using h
  have h1:at9 (x::t) (j+1)=t[j]:=by rw [dx h];rfl
  show (((x::t).set 0 (at9 (x::t) (j+1))).set (j+1) (at9 (x::t) 0)).Perm _;rw [h1];exact Gf x t[j] t j (List.getElem?_eq_getElem hj)
 |x::t,i+1,0,h,_=>by omega
 |x::t,i+1,j+1,h,hj=>by
  have ih:=FR t i j (by omega) (by simpa using hj);exact List.Perm.cons x ih
theorem Hl {l:List Dem} {i j:Nat} (h:i≠j):swd l i j=swd l j i:=by
 unfold swd;rw [List.set_comm _ _ h]
theorem Hm (l:List Dem) (i:Nat) (h:i<l.length):swd l i i=l:=by
 unfold swd;rw [List.set_set,dx h,List.set_getElem_self]
theorem FM {l:List Dem} {i j:Nat} (hi:i<l.length) (hj:j<l.length):(swd l i j).Perm l:=by
 rcases Nat.lt_trichotomy i j with h|h|h
 ·exact FR l i j h hj
 ·subst h;rw [Hm l i hi]
 rw [Hl (by omega)];exact FR l j i h hi
def Srt (l:List Dem) (a b:Nat):Prop:=∀p q,a<=p->p<q->q<b->¬klt (at9 l q) (at9 l p)
theorem Fx {l:List Dem} {a b p q:Nat} (h:Srt l a b) (h1:a<=p) (h2:p<=q) (h3:q<b):¬klt (at9 l q) (at9 l p):=by
 rcases Nat.lt_or_eq_of_le h2 with h4|h4
 ·exact h p q h1 h4 h3
 subst h4;intro h5;exact Fv h5 h5
theorem Gk (l:List Dem) (a b:Nat) (h:b<=a+1):Srt l a b:=fun p q _ _ _=>by omega
theorem ID {l:List Dem} (h:Srt l 0 l.length):l.Pairwise (fun a b=>¬klt b a):=by
 rw [List.pairwise_iff_getElem];intro i j hi hj hij;have:=h i j (Nat.zero_le _) hij hj;rwa [dx hi,dx hj] at this
def Same9 (l l':List Dem) (a b:Nat):Prop:=l'.Perm l/\(∀p,p<a∨b<=p->at9 l' p=at9 l p)/\∀p,a<=p->p<b->∃q,a<=q/\q<b/\at9 l' p=at9 l q
theorem Same9.refl (l:List Dem) (a b:Nat):Same9 l l a b:=⟨List.Perm.refl _,fun _ _=>rfl,fun p h1 h2=>⟨p,h1,h2,rfl⟩⟩
theorem Same9.trans {l l' l2:List Dem} {a b:Nat} (h:Same9 l l' a b) (k:Same9 l' l2 a b):Same9 l l2 a b:=by
 refine ⟨k.1.trans h.1,fun p hp=>(k.2.1 p hp).trans (h.2.1 p hp),fun p h1 h2=>?_⟩;obtain ⟨q,h3,h4,h5⟩:=k.2.2 p h1 h2;obtain ⟨r,h6,h7,h8⟩:=h.2.2 q h3 h4;exact ⟨r,h6,h7,h5.trans h8⟩
theorem Same9.mono {l l':List Dem} {a b c d:Nat} (h:Same9 l l' a b) (h1:c<=a) (h2:b<=d):Same9 l l' c d:=by
 refine ⟨h.1,fun p hp=>h.2.1 p (by omega),fun p h3 h4=>?_⟩;by_cases h5:a<=p/\p<b
 ·obtain ⟨q,h6,h7,h8⟩:=h.2.2 p h5.1 h5.2;exact ⟨q,by omega,by omega,h8⟩
 exact ⟨p,h3,h4,h.2.1 p (by omega)⟩
theorem Hn {l:List Dem} {i j a b:Nat} (hi:i<l.length) (hj:j<l.length) (h1:a<=i) (h2:i<b) (h3:a<=j) (h4:j<b):Same9 l (swd l i j) a b:=by
 refine ⟨FM hi hj,fun p hp=>?_,fun p h5 h6=>?_⟩
 ·rw [FE hi hj,if_neg (by omega),if_neg (by omega)]
 rw [FE hi hj];split
 ·exact ⟨i,h1,h2,rfl⟩
 split
 ·exact ⟨j,h3,h4,rfl⟩
 exact ⟨p,h5,h6,rfl⟩
theorem Srt.out {l l':List Dem} {a b c d:Nat} (hs:Srt l c d) (h:Same9 l l' a b) (h1:d<=a∨b<=c):Srt l' c d:=fun p q h2 h3 h4=>by
 rw [h.2.1 p (by omega),h.2.1 q (by omega)];exact hs p q h2 h3 h4
def Ho (l:List Dem) (a j b:Nat):Prop:=(∀p q,a<=p->p<q->q<b->p≠j->q≠j->¬klt (at9 l q) (at9 l p))/\∀q,j<q->q<b->¬klt (at9 l q) (at9 l j)
theorem G8 {l:List Dem} {a i:Nat} (h:Srt l a i):Ho l a i (i+1):=⟨fun p q h1 h2 h3 _ h5=>h p q h1 h2 (by omega),fun q _ _=>by omega⟩
theorem Hq {l:List Dem} {a j b:Nat} (hj:a<j) (hb:j<b) (hl:b<=l.length) (h:Ho l a j b) (hlt:klt (at9 l j) (at9 l (j-1))):Ho (swd l j (j-1)) a (j-1) b:=by
 have e:=FE (l:=l) (i:=j) (j:=j-1) (by omega) (by omega);constructor
 ·intro p q h1 h2 h3 h4 h5;rw [e p,e q,if_neg h4,if_neg h5];by_cases hp:p=j
  ·rw [if_pos hp,if_neg (by omega)];exact h.1 (j-1) q (by omega) (by omega) h3 (by omega) (by omega)
  rw [if_neg hp];by_cases hq:q=j
  ·rw [if_pos hq];exact h.1 p (j-1) h1 (by omega) (by omega) hp (by omega)
  rw [if_neg hq];exact h.1 p q h1 h2 h3 hp hq
 intro q h1 h2;rw [e q,e (j-1),if_neg (by omega),if_pos rfl];by_cases hq:q=j
 ·rw [if_pos hq];exact Fv hlt
 rw [if_neg hq];exact h.2 q (by omega) h2
theorem GT {l:List Dem} {a j b:Nat} (haj:a<=j) (h:Ho l a j b) (hn:j=a∨¬klt (at9 l j) (at9 l (j-1))):Srt l a b:=by
 intro p q h1 h2 h3;by_cases hp:p=j
 ·subst hp;exact h.2 q h2 h3
 by_cases hq:q=j
 ·subst hq;rcases hn with hn|hn
  ·omega
  by_cases hp1:p=q-1
  ·rw [hp1];exact hn
  exact rm (h.1 p (q-1) h1 (by omega) (by omega) hp (by omega)) hn
 exact h.1 p q h1 h2 h3 hp hq
def sw9 (f:Nat->Dem) (a b n:Nat):Nat->Dem:=fun p=>if a<=p/\p<a+n then f (p-a+b) else if b<=p/\p<b+n then f (p-b+a) else f p
def s0 (f:Nat->Dem) (a m b:Nat):Nat->Dem:=fun p=>if a<=p/\p<b then (if p<a+(b-m) then f (p+(m-a)) else f (p-(b-m))) else f p
theorem Hr (f:Nat->Dem) (a b:Nat):sw9 f a b 0=f:=by
 funext p;unfold sw9;rw [if_neg (by omega),if_neg (by omega)]
theorem Hs {l:List Dem} {f:Nat->Dem} {a b n:Nat} (h:at9 l=sw9 f a b n) (ha:a+n<l.length) (hb:b+n<l.length) (hd:a+n<b∨b+n<a):at9 (swd l (a+n) (b+n))=sw9 f a b (n+1):=by
 funext p;rw [FE ha hb,h];unfold sw9;repeat' split
 all_goals first|omega|rfl|(congr 1;omega)
theorem IE (f:Nat->Dem) (m i j:Nat) (him:i<=m) (hj:0<j) (hij:j<i):s0 (sw9 f (m-i) m j) (m-(i-j)) m (m+j)=s0 f (m-i) m (m+j):=by
 funext p;unfold s0 sw9;by_cases h1:m-i<=p/\p<m+j
 ·rw [if_pos h1];by_cases h2:p<m-i+j
  ·rw [if_pos (by omega:p<m-i+(m+j-m)),if_neg (by omega),if_pos (by omega)];congr 1;omega
  rw [if_neg (by omega:¬p<m-i+(m+j-m)),if_pos (by omega)];by_cases h3:p<m-(i-j)+(m+j-m)
  ·rw [if_pos h3,if_neg (by omega),if_pos (by omega)];congr 1;omega
  rw [if_neg h3,if_neg (by omega),if_neg (by omega)]
 rw [if_neg h1,if_neg (by omega),if_neg (by omega),if_neg (by omega)]
theorem IF (f:Nat->Dem) (m i j:Nat) (him:i<=m) (hi:0<i) (hij:i<j):s0 (sw9 f (m-i) (m+j-i) i) (m-i) m (m+(j-i))=s0 f (m-i) m (m+j):=by
 funext p;unfold s0 sw9;by_cases h1:m-i<=p/\p<m+j
 ·rw [if_pos h1];by_cases h2:p<m+(j-i)
  ·rw [if_pos (by omega)];by_cases h3:p<m-i+(m+(j-i)-m)
   ·rw [if_pos h3,if_pos (by omega:p<m-i+(m+j-m)),if_neg (by omega),if_neg (by omega)]
   rw [if_neg h3,if_pos (by omega)];by_cases h4:p<m-i+(m+j-m)
   ·rw [if_pos h4];congr 1;omega
   omega
  rw [if_neg (by omega),if_neg (by omega),if_pos (by omega),if_neg (by omega)];congr 1;omega
 rw [if_neg h1,if_neg (by omega),if_neg (by omega),if_neg (by omega)]
theorem IG (f:Nat->Dem) (m i:Nat) (him:i<=m):sw9 f (m-i) m i=s0 f (m-i) m (m+i):=by
 funext p;unfold s0 sw9;by_cases h1:m-i<=p/\p<m+i
 ·rw [if_pos h1];by_cases h2:p<m
  ·rw [if_pos (by omega),if_pos (by omega)];congr 1;omega
  rw [if_neg (by omega),if_pos (by omega),if_neg (by omega)];congr 1;omega
 rw [if_neg h1,if_neg (by omega),if_neg (by omega)]
theorem Ht {l l':List Dem} {a m b:Nat} (hp:l'.Perm l) (h:at9 l'=s0 (at9 l) a m b) (h1:a<=m) (h2:m<=b):Same9 l l' a b:=by
 refine ⟨hp,fun p h5=>?_,fun p h5 h6=>?_⟩
 ·rw [h];unfold s0;rw [if_neg (by omega)]
 rw [h];unfold s0;rw [if_pos ⟨h5,h6⟩];split
 ·exact ⟨_,by omega,by omega,rfl⟩
 exact ⟨_,by omega,by omega,rfl⟩
theorem IH {l l':List Dem} {a b i:Nat} (hab:a+1<=b) (hi:a+1<=i/\i<=b) (hs:Srt l (a+1) b) (h1:∀q,a<q->q<i->klt (at9 l q) (at9 l a)) (h2:∀q,i<=q->q<b->¬klt (at9 l q) (at9 l a))
  (he:∀p,at9 l' p=if a<=p/\p<i-1 then at9 l (p+1) else if p=i-1 then at9 l a else at9 l p):Srt l' a b:=by
 intro p q h3 h4 h5;rw [he p,he q];repeat' split
 all_goals first|omega|exact hs _ _ (by omega) (by omega) (by omega)|exact Fv (h1 _ (by omega) (by omega))|exact h2 _ (by omega) (by omega)
theorem Hu {l l':List Dem} {a m i:Nat} (hi:a<=i/\i<=m) (hs:Srt l a m) (h1:∀q,a<=q->q<i->¬klt (at9 l m) (at9 l q)) (h2:∀q,i<=q->q<m->klt (at9 l m) (at9 l q))
  (he:∀p,at9 l' p=if i<p/\p<=m then at9 l (p-1) else if p=i then at9 l m else at9 l p):Srt l' a (m+1):=by
 intro p q h3 h4 h5;rw [he p,he q];repeat' split
 all_goals first|omega|exact hs _ _ (by omega) (by omega) (by omega)|exact Fv (h2 _ (by omega) (by omega))|exact h1 _ (by omega) (by omega)
theorem GK {l l':List Dem} {a m b mid n start e:Nat} (hn:n=mid+m) (he:e=n-start) (h0:a<=start) (h1:start<=m) (h2:m<=e) (h3:e<=b) (hm1:a<=mid/\mid<=b) (s1:Srt l a m) (s2:Srt l m b)
  (c1:(start=a∨e=b)∨¬klt (at9 l e) (at9 l (start-1))) (c2:(start=m∨e=m)∨klt (at9 l (e-1)) (at9 l start)) (hr:at9 l'=s0 (at9 l) start m e):
  Srt l' a start/\Srt l' start mid/\Srt l' mid e/\Srt l' e b/\∀p q,a<=p->p<mid->mid<=q->q<b->¬klt (at9 l' q) (at9 l' p):=by
 have hmid:start+(e-m)=mid:=by omega
 have lo:∀p,p<start->at9 l' p=at9 l p:=fun p hp=>by rw [hr];unfold s0;rw [if_neg (by omega)]
 have hi:∀p,e<=p->at9 l' p=at9 l p:=fun p hp=>by rw [hr];unfold s0;rw [if_neg (by omega)]
 have m1:∀p,start<=p->p<mid->at9 l' p=at9 l (p+(m-start)):=fun p h4 h5=>by rw [hr];unfold s0;rw [if_pos (by omega),if_pos (by omega)]
 have m2:∀p,mid<=p->p<e->at9 l' p=at9 l (p-(e-m)):=fun p h4 h5=>by rw [hr];unfold s0;rw [if_pos (by omega),if_neg (by omega)]
 refine ⟨fun p q h4 h5 h6=>?_,fun p q h4 h5 h6=>?_,fun p q h4 h5 h6=>?_,fun p q h4 h5 h6=>?_,fun p q h4 h5 h6 h7=>?_⟩
 ·rw [lo p (by omega),lo q h6];exact s1 p q h4 h5 (by omega)
 ·rw [m1 p h4 (by omega),m1 q (by omega) h6];exact s2 _ _ (by omega) (by omega) (by omega)
 ·rw [m2 p h4 (by omega),m2 q (by omega) h6];exact s1 _ _ (by omega) (by omega) (by omega)
 ·rw [hi p h4,hi q (by omega)];exact s2 _ _ (by omega) h5 h6
 by_cases hp:p<start
 ·rw [lo p hp];by_cases hq:q<e
  ·rw [m2 q h6 hq];exact s1 _ _ h4 (by omega) (by omega)
  rw [hi q (by omega)];have c3:¬klt (at9 l e) (at9 l (start-1)):=by
   rcases c1 with (c|c)|c
   ·omega
   ·omega
   exact c
  exact rm (Fx s1 h4 (by omega) (by omega)) (rm c3 (Fx s2 (by omega) (by omega) h7))
 rw [m1 p (by omega) h5];by_cases hq:q<e
 ·rw [m2 q h6 hq];have c3:klt (at9 l (e-1)) (at9 l start):=by
   rcases c2 with (c|c)|c
   ·omega
   ·omega
   exact c
  exact rm (Fx s2 (by omega) (by omega) (by omega)) (rm (Fv c3) (Fx s1 h0 (by omega) (by omega)))
 rw [hi q (by omega)];exact s2 _ _ (by omega) (by omega) h7
theorem II {l l1 l2:List Dem} {a mid b:Nat} (h:∀p q,a<=p->p<mid->mid<=q->q<b->¬klt (at9 l q) (at9 l p)) (g1:Same9 l l1 a mid) (s1:Srt l1 a mid) (g2:Same9 l1 l2 mid b) (s2:Srt l2 mid b) (ha:a<=mid) (hb:mid<=b):Srt l2 a b:=by
 intro p q h1 h2 h3;by_cases hp:p<mid
 ·rw [g2.2.1 p (.inl hp)];by_cases hq:q<mid
  ·rw [g2.2.1 q (.inl hq)];exact s1 p q h1 h2 hq
  obtain ⟨r,r1,r2,r3⟩:=g2.2.2 q (by omega) h3;obtain ⟨s,t1,t2,t3⟩:=g1.2.2 p h1 hp;rw [r3,t3,g1.2.1 r (.inr r1)];exact h s r t1 t2 r1 r2
 exact s2 p q (by omega) h2 h3
end Go.Proofs.YtcgpghifhehlhaaGreatDoor
end
namespace Go.Proofs.YtcgpghifhehlhaaGreatDoor
open Go.RowKit
theorem hid {p:Prop} (h:p):Hid p:=h
abbrev dW (α:Type):=World->(Nat->Prop)->List Value->α->Prop
abbrev LT (n:Nat):Nat->Prop:=fun b=>b<n
def Frame (S:Nat->Prop) (w w':World):Prop:=∀b,S b->w'.heap[b]? =w.heap[b]?
theorem Frame.refl (S:Nat->Prop) (w:World):Frame S w w:=fun _ _=>rfl
theorem Frame.trans {S:Nat->Prop} {a b c:World} (h:Frame S a b) (k:Frame S b c):Frame S a c:=fun i hi=>(k i hi).trans (h i hi)
theorem Frame.below {B:Nat} {w w':World} (h:Below B w w'):Frame (LT B) w w':=fun b hb=>h.block b hb
theorem Frame.mono {S T:Nat->Prop} {w w':World} (h:Frame S w w') (hs:∀b,T b->S b):Frame T w w':=fun b hb=>h b (hs b hb)
theorem Frame.cell {S:Nat->Prop} {w w':World} (h:Frame S w w') {p:Addr} (hp:S p.block):w'.cell? p=w.cell? p:=World.cell?_of_block (w:=w) (h p.block hp)
def Stays {α:Type} (R:dW α):Prop:=∀w w' S S' cs a,R w S cs a->Frame S w w'->(∀b,S b->S' b)->R w' S' cs a
theorem Stays.below {α:Type} {R:dW α} (hR:Stays R) {w w':World} {B B':Nat} {cs:List Value} {a:α} (h:R w (LT B) cs a) (hb:Below B w w') (hB:B<=B'):R w' (LT B') cs a:=
 hR _ _ _ _ _ _ h (Frame.below hb) fun b hb=>Nat.lt_of_lt_of_le hb hB
structure GRat where
 neg:Bool
 num:ByteArray
 den:ByteArray
deriving DecidableEq,Inhabited
structure GOpt where
 amount:GRat
 rank:Int
deriving Inhabited
structure GDisp where
 est:Int
 cl:Int
 opts:List GOpt
deriving Inhabited
def xO (n:Int):Prop:= -9223372036854775808<=n/\n<=9223372036854775807
def zY:dW Int:=fun _ _ cs n=>cs=[.int .i64 n]/\xO n
def rU8:dW Nat:=fun _ _ cs n=>cs=[.int .u8 n]/\n<256
def zd:dW Nat:=fun _ _ cs n=>cs=[.int .u16 n]/\n<65536
def bi:dW Nat:=fun _ _ cs n=>cs=[.int .u32 n]/\n<4294967296
def x6:dW GRat:=fun _ _ cs r=>cs=[.bool r.neg,.string r.num,.string r.den]/\r.num.size<=maxLen/\r.den.size<=maxLen
def rAt {α:Type} (sz:Nat) (R:dW α) (w:World) (B:Nat->Prop) (b off:Nat) (l:List α):Prop:=
 B b/\∀j (h:j<l.length),∃cs,cs.length=sz/\(∀c,c<sz->w.cell? ⟨b,off+j*sz+c,none⟩=cs[c]?)/\R w B cs l[j]
def ax {α:Type} (sz:Nat) (R:dW α):dW (List α):=fun w B cs l=>
 ∃a cap,cs=[.slice a l.length cap]/\l.length<=cap/\cap<=maxLen/\(a=none->cap=0)/\(l=[]∨∃b off,a=some ⟨b,off,none⟩/\rAt sz R w B b off l)
theorem iT {α:Type} {p:List Value->α->Prop}:Stays (fun _ _ cs a=>p cs a):=fun _ _ _ _ _ _ h _ _=>h
theorem jF:Stays rU8:=iT
theorem aX:Stays bi:=iT
theorem p7:Stays x6:=iT
theorem Gg {α:Type} {sz:Nat} {R:dW α} (hR:Stays R) {w w':World} {S S':Nat->Prop} {b off:Nat} {l:List α} (h:rAt sz R w S b off l) (hb:Frame S w w') (hB:∀b,S b->S' b):rAt sz R w' S' b off l:=by
 obtain ⟨hlt,h⟩:=h;refine ⟨hB _ hlt,fun j hj=>?_⟩;obtain ⟨cs,h1,h2,h3⟩:=h j hj;exact ⟨cs,h1,fun c hc=>by rw [hb.cell (p:=⟨b,off+j*sz+c,none⟩) hlt];exact h2 c hc,hR _ _ _ _ _ _ h3 hb hB⟩
theorem aF {α:Type} {sz:Nat} {R:dW α} (hR:Stays R):Stays (ax sz R):=by
 rintro w w' S S' cs l ⟨a,cap,rfl,h1,h2,h3,h4⟩ hb hB;refine ⟨a,cap,rfl,h1,h2,h3,?_⟩;rcases h4 with h4|⟨b,off,rfl,h4⟩
 ·exact .inl h4
 exact .inr ⟨b,off,rfl,Gg hR h4 hb hB⟩
theorem dX {α:Type} {l:List α} {cap:Nat} (h1:l.length<=cap) (h2:cap<=maxLen):l.length<=9223372036854775807:=by
 unfold maxLen at h2;omega
theorem rAt.get {α:Type} {sz:Nat} {R:dW α} (hR:Stays R) {w w':World} {S:Nat->Prop} {b off:Nat} {l:List α} (h:rAt sz R w S b off l) (hb:Frame S w w') {j:Nat} (hj:j<l.length):
  ∃cs,cs.length=sz/\(∀c,c<sz->w'.cell? ⟨b,off+j*sz+c,none⟩=cs[c]?)/\R w' S cs l[j]:=by
 obtain ⟨_,h⟩:=Gg hR h hb (fun _ h=>h);exact h j hj
theorem bI {k:IntKind} {a b:Int} (h:a=b):Ending.returned (.int k a)= .returned (.int k b):=by rw [h]
theorem ji {a b:ByteArray} (h:a=b):Ending.returned (.string a)= .returned (.string b):=by rw [h]
theorem _root_.Go.RowKit.Below.drewN {B:Nat} {a w:World} (h:Below B a w) (n:Nat):Below B a (w.drewN n):=⟨h.os,h.tape,h.output,h.size,h.block⟩
theorem _root_.Go.RowKit.Below.step {w a b:World} (h:Below w.heap.size w a) (h':Below a.heap.size a b):Below w.heap.size w b:=h.trans (h'.mono h.size)
def Own (w:World) (g:Nat) (E:TypeId) (n:Nat) (f:Nat->Value):Prop:=w.heap[g]? =some (.cells ((Array.range n).map f) E (0,0))
def upd (f:Nat->Value) (p:Nat) (v:Value):Nat->Value:=fun j=>if j=p then v else f j
theorem Own.lt {w:World} {g E n:Nat} {f:Nat->Value} (h:Own w g E n f):g<w.heap.size:=(Array.getElem?_eq_some_iff.1 h).1
theorem Own.cell {w:World} {g E n:Nat} {f:Nat->Value} (h:Own w g E n f) {j:Nat} (hj:j<n):w.cell? ⟨g,j,none⟩=some (f j):=by
 unfold Own at h;simp [World.cell?,h,hj]
theorem Own.frozen {w:World} {g E n:Nat} {f:Nat->Value} (h:Own w g E n f) (j:Nat):w.frozen? ⟨g,j,none⟩=false:=by
 unfold Own at h;simp [World.frozen?,h]
theorem Own.alloc {w:World} {g E n:Nat} {f:Nat->Value} (h:Own w g E n f) (o:Obj):Own (w.alloc o) g E n f:=by
 unfold Own;rw [Below.heap_alloc _ _ _ h.lt];exact h
theorem Own.below {w w':World} {B g E n:Nat} {f:Nat->Value} (h:Own w g E n f) (hb:Below B w w') (hB:g<B):Own w' g E n f:=by
 unfold Own;rw [hb.block g hB];exact h
theorem Own.drew {w:World} {g E n:Nat} {f:Nat->Value} (h:Own w g E n f):Own w.drew g E n f:=h
theorem Own.set {w:World} {g E n:Nat} {f:Nat->Value} (h:Own w g E n f) (p:Nat) (v:Value):Own (w.setCell ⟨g,p,none⟩ v) g E n (upd f p v):=by
 unfold Own at *
 rw [heap_setCell_same w g p _ E v h];congr 2;apply Array.ext
 ·simp
 intro i h1 h2;have h3:i<((Array.range n).map f).size:=by simpa using h1
 rw [Array.getElem_setIfInBounds (hj:=h3)];simp only [Array.getElem_map,Array.getElem_range,upd];by_cases e:p=i
 ·rw [if_pos e,if_pos e.symm]
 rw [if_neg e,if_neg (fun e'=>e e'.symm)]
theorem Own.other {w:World} {g E n:Nat} {f:Nat->Value} (h:Own w g E n f) {g':Nat} (hne:g'≠g) (p:Nat) (v:Value):Own (w.setCell ⟨g',p,none⟩ v) g E n f:=by
 unfold Own at *
 rw [Below.heap_setCell _ _ _ _ (fun e=>hne e.symm)];exact h
theorem Own.congr {w:World} {g E n:Nat} {f f':Nat->Value} (h:Own w g E n f) (hf:∀j,j<n->f j=f' j):Own w g E n f':=by
 unfold Own at *
 rw [h];congr 2;apply Array.ext
 ·simp
 intro i h1 h2;simp only [Array.getElem_map,Array.getElem_range];exact hf i (by simpa using h1)
theorem Own.new (w:World) (E n:Nat) (f:Nat->Value):Own (w.alloc (.cells ((Array.range n).map f) E)) w.heap.size E n f:=heap_alloc_new w _
theorem cy {P:Program} {t e:TypeId} {z:Value} {bytes:Nat} (ht:P.underlying t=some (.slice e)) (hi:(P.info? e).map (fun i=>(i.zero,i.size,i.bytes))=some (some z,1,bytes)) (hz:z.cells= #[z])
  (w:World) (n:Nat) (hb:bytes*n<=281474976710656) (hn:n<=9223372036854775807):
  (Instr.makeSlice t (.int .i64 n) (.int .i64 n)).run P w= .ok (.slice (some ⟨w.heap.size,0,none⟩) n n) (w.alloc (.cells ((Array.range n).map fun _=>z) e)):=by
 obtain ⟨i,hi1,hi2,hi3,hi4⟩:=info_parts hi;have h:=run_make (P:=P) w t e i z ht hi1 hi2 .i64 .i64 n n (by omega) (by omega) (by rw [hi4];omega) (by omega);rw [h,hi3,hz];simp [madeCells,Nat.mod_one]
theorem Own.reads {α:Type} {R:dW α} {w:World} {g E n:Nat} {f:Nat->Value} (h:Own w g E n f) {l:List α} (hl:l.length=n) (hn:n<=maxLen) (hR:∀j (hj:j<l.length),R w (LT w.heap.size) [f j] l[j]):
  ax 1 R w (LT w.heap.size) [.slice (some ⟨g,0,none⟩) n n] l:=by
 refine ⟨some ⟨g,0,none⟩,n,by rw [hl],by omega,hn,by simp,.inr ⟨g,0,rfl,h.lt,fun j hj=>⟨[f j],rfl,?_,hR j hj⟩⟩⟩;intro c hc;obtain rfl:c=0:=by omega
 have:=h.cell (j:=j) (by omega);simpa using this
theorem rAt.one {α:Type} {R:dW α} {w:World} {B:Nat->Prop} {b off:Nat} {l:List α} (h:rAt 1 R w B b off l) {j:Nat} (hj:j<l.length):
  ∃v,w.cell? ⟨b,off+j,none⟩=some v/\R w B [v] l[j]:=by
 obtain ⟨_,h⟩:=h;obtain ⟨cs,h1,h2,h3⟩:=h j hj;match cs,h1 with
 |[v],_=>
  refine ⟨v,?_,h3⟩;have:=h2 0 (by omega);simpa using this
theorem rAt.i64 {w:World} {B:Nat->Prop} {b off:Nat} {l:List Int} (h:rAt 1 zY w B b off l) {j:Nat} (hj:j<l.length):w.cell? ⟨b,off+j,none⟩=some (.int .i64 l[j])/\xO l[j]:=by
 obtain ⟨v,h1,h2,h3⟩:=h.one hj;simp only [List.cons.injEq,and_true] at h2;subst h2;exact ⟨h1,h3⟩
theorem rAt.u32 {w:World} {B:Nat->Prop} {b off:Nat} {l:List Nat} (h:rAt 1 bi w B b off l) {j:Nat} (hj:j<l.length):w.cell? ⟨b,off+j,none⟩=some (.int .u32 l[j])/\l[j]<4294967296:=by
 obtain ⟨v,h1,h2,h3⟩:=h.one hj;simp only [List.cons.injEq,and_true] at h2;subst h2;exact ⟨h1,h3⟩
theorem rAt.u16 {w:World} {B:Nat->Prop} {b off:Nat} {l:List Nat} (h:rAt 1 zd w B b off l) {j:Nat} (hj:j<l.length):w.cell? ⟨b,off+j,none⟩=some (.int .u16 l[j])/\l[j]<65536:=by
 obtain ⟨v,h1,h2,h3⟩:=h.one hj;simp only [List.cons.injEq,and_true] at h2;subst h2;exact ⟨h1,h3⟩
theorem rAt.u8 {w:World} {B:Nat->Prop} {b off:Nat} {l:List Nat} (h:rAt 1 rU8 w B b off l) {j:Nat} (hj:j<l.length):w.cell? ⟨b,off+j,none⟩=some (.int .u8 l[j])/\l[j]<256:=by
 obtain ⟨v,h1,h2,h3⟩:=h.one hj;simp only [List.cons.injEq,and_true] at h2;subst h2;exact ⟨h1,h3⟩
theorem jj {P:Program} (w:World) (base:Nat) (t ty e:TypeId) (i:TypeInfo) (z:Value) (size bytes:Nat) (ht:P.underlying t=some (.slice e)) (hi:P.info? e=some i) (hz:i.zero=some z)
  (hsize:i.size=size) (hby:i.bytes=bytes) (hzs:z.cells.size=size) (hsz:0<size)
  (v:Value) (n:Nat) (xs:List Value) (hown:w.ownsRow base e size v n xs)
  (a:Addr) (m c:Nat) (news:List Value) (hl:news.length=m*size) (hnews:∀j u,news[j]? =some u->w.cell? (a.add j)=some u) (h1:∀u∈news,u.oneCell'=true)
  (h63:n+m<=maxLen) (hbytes:(n+m)*bytes<=140737488355328) (hbase:base<=w.heap.size) (hm:0<m):
  ∃v' w',(Builtin.append_ #[t,t] ty #[v,.slice (some a) m c]).run P w= .ok v' w'/\w'.ownsRow base e size v' (n+m) (xs++news)/\w.grownBy w' v.ownBlock/\
   (v'.ownBlock=v.ownBlock∨v'.ownBlock=some w.heap.size):=by
 obtain ⟨v',w',hr,h2,h3,_⟩:=run_append_own (P:=P) w base t ty e i z size bytes ht hi hz hsize hby hzs hsz v n xs hown a m c news hl hnews h1 h63 hbytes hbase;refine ⟨v',w',hr,h2,h3,?_⟩;subst hsize;subst hby
 have hsmall:n+m<=9223372036854775807:=by simp only [maxLen] at h63;omega
 rcases hown.2 with ⟨rfl,rfl⟩|⟨g,cap,cur,rfl,hbg,hg,hnc,hcm,hcs,htake⟩
 ·have hq:=run_append_nil (P:=P) w t ty e i z ht hi hz a m c news hl hnews (by omega) (by omega) (by have hb:=hbytes;simp only [Nat.zero_add] at hb;omega);rw [hq] at hr;injection hr with e1 _
  subst e1;exact .inr rfl
 by_cases hroom:n+m<=cap
 ·have hfit:n*i.size+news.length<=cur.size:=by rw [hl,hcs,←Nat.add_mul];exact Nat.mul_le_mul_right _ hroom
  have hq:=run_append_room (P:=P) w t ty e i ht hi g n cap cur hg a m c news hl hnews h1 hroom hfit;rw [hq] at hr;injection hr with e1 _
  subst e1;exact .inl rfl
 have holds:∀j u,xs[j]? =some u->w.cell? ((⟨g,0,none⟩:Addr).add j)=some u:=hown.cells (g:=g) rfl;have hq:=run_append_grow (P:=P) w t ty e i z ht hi hz ⟨g,0,none⟩ n cap xs hown.1 holds a m c news hl hnews (by omega) (by omega) (growslice_fits (by omega) hbytes);rw [hq] at hr;injection hr with e1 _
 subst e1;exact .inr rfl
abbrev gL (w:World) (v:Value):Nat->Prop:=fun b=>b<w.heap.size/\some b≠v.ownBlock
def rGrow {α:Type} (E sz:Nat) (R:dW α) (base:Nat) (w:World) (v:Value) (l:List α):Prop:=
 ∃xs,w.ownsRow base E sz v l.length xs/\∀j (hj:j<l.length),R w (gL w v) ((xs.drop (j*sz)).take sz) l[j]
theorem rGrow.nil {α:Type} (E sz:Nat) (R:dW α) (base:Nat) (w:World):rGrow E sz R base w (.slice none 0 0) ([]:List α):=
 ⟨[],World.ownsRow_nil _ _ _ _,fun j hj=>by simp at hj⟩
theorem rGrow.slice {α:Type} {E sz:Nat} {R:dW α} (hR:Stays R) {base:Nat} {w:World} {v:Value} {l:List α} (h:rGrow E sz R base w v l):
  ax sz R w (LT w.heap.size) [v] l:=by
 obtain ⟨xs,⟨h1,h2⟩,h3⟩:=h;rcases h2 with ⟨rfl,h2⟩|⟨g,cap,cur,rfl,h2,h4,h5,h6,h7,h8⟩
 ·have:l=[]:=List.eq_nil_of_length_eq_zero h2;subst this;exact ⟨none,0,rfl,Nat.le_refl _,by unfold maxLen;omega,fun _=>rfl,.inl rfl⟩
 refine ⟨some ⟨g,0,none⟩,cap,rfl,h5,h6,by simp,.inr ⟨g,0,rfl,(Array.getElem?_eq_some_iff.1 h4).1,fun j hj=>⟨(xs.drop (j*sz)).take sz,?_,?_,?_⟩⟩⟩
 ·have:(j+1)*sz<=l.length*sz:=Nat.mul_le_mul_right _ hj;rw [Nat.add_mul] at this;simp [h1];omega
 ·intro c hc;have:(j+1)*sz<=l.length*sz:=Nat.mul_le_mul_right _ hj;rw [Nat.add_mul] at this;rw [List.getElem?_take,if_pos hc,List.getElem?_drop,←h8,List.getElem?_take,if_pos (by omega)];simp [World.cell?,h4]
 exact hR _ _ _ _ _ _ (h3 j hj) (Frame.refl _ _) fun b hb=>hb.1
theorem rGrow.kept {α:Type} {E sz:Nat} {R:dW α} (hR:Stays R) {base:Nat} {w w':World} {v:Value} {l:List α} (h:rGrow E sz R base w v l) (hb:Below w.heap.size w w'):rGrow E sz R base w' v l:=by
 obtain ⟨xs,h1,h3⟩:=h;refine ⟨xs,h1.kept (row:=none) ⟨hb.os,hb.tape,hb.output,hb.size,fun k hk _=>hb.block k hk⟩ (by cases v.ownBlock<;>simp),fun j hj=>hR _ _ _ _ _ _ (h3 j hj) (fun b hb'=>hb.block b hb'.1) fun b hb'=>⟨Nat.lt_of_lt_of_le hb'.1 hb.size,hb'.2⟩⟩
theorem rGrow.lt {α:Type} {E sz:Nat} {R:dW α} {base:Nat} {w:World} {v:Value} {l:List α} (h:rGrow E sz R base w v l):∀k,v.ownBlock=some k->base<=k/\k<w.heap.size:=h.choose_spec.1.lt
theorem rGrow.push {α:Type} {E sz:Nat} {R:dW α} (hR:Stays R) (hsz:0<sz) {base:Nat} {w w':World} {v v':Value} {l:List α} {x:α} {news:List Value} (h3:∀xs,w.ownsRow base E sz v l.length xs->w'.ownsRow base E sz v' (l.length+1) (xs++news))
  (h:rGrow E sz R base w v l) (hn:news.length=sz) (hg:w.grownBy w' v.ownBlock) (hv:v'.ownBlock=v.ownBlock∨v'.ownBlock=some w.heap.size) (hx:R w (gL w v) news x):rGrow E sz R base w' v' (l++[x]):=by
 obtain ⟨xs,h1,h2⟩:=h;have h4:=h3 xs h1;have hst:∀cs (a:α),R w (gL w v) cs a->R w' (gL w' v') cs a:=fun cs a hr=>hR _ _ _ _ _ _ hr (fun b hb=>hg.block b hb.1 hb.2) fun b hb=>by
  refine ⟨Nat.lt_of_lt_of_le hb.1 hg.size,?_⟩;rcases hv with hv|hv
  ·rw [hv];exact hb.2
  rw [hv];intro e;have:=Option.some.inj e;have:=hb.1;omega
 refine ⟨xs++news,by simpa using h4,fun j hj=>?_⟩;have hlen:=h1.1;by_cases hj':j<l.length
 ·have:(j+1)*sz<=l.length*sz:=Nat.mul_le_mul_right _ hj';rw [Nat.add_mul] at this;rw [List.getElem_append_left hj',List.drop_append_of_le_length (by omega),List.take_append_of_le_length (by simp;omega)];exact hst _ _ (h2 j hj')
 have hj2:j=l.length:=by simp at hj;omega
 subst hj2;have e1:(l++[x])[l.length]=x:=by simp
 rw [e1,←hlen,List.drop_left,List.take_of_length_le (by omega)];exact hst _ _ hx
end Go.Proofs.YtcgpghifhehlhaaGreatDoor
