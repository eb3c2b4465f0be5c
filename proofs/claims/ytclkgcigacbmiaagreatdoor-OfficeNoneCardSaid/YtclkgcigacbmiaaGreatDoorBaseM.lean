/- Readings of Go values as plain Lean data, stable while the call makes memory of its own. No program in sight. -/
import Derived.WalkKit
import Derived.WalkSpells
import Derived.WalkLawsBesides
set_option linter.unusedVariables false
set_option linter.unusedSimpArgs false
namespace Go.Proofs.YtclkgcigacbmiaaGreatDoor
open Go.RowKit
theorem hid {p:Prop} (h:p):Hid p:=h
abbrev cr (α:Type):=World->(Nat->Prop)->List Value->α->Prop
abbrev LT (n:Nat):Nat->Prop:=fun b=>b<n
def Frame (S:Nat->Prop) (w w':World):Prop:=∀b,S b->w'.heap[b]? =w.heap[b]?
theorem Frame.refl (S:Nat->Prop) (w:World):Frame S w w:=fun _ _=>rfl
theorem Frame.trans {S:Nat->Prop} {a b c:World} (h:Frame S a b) (k:Frame S b c):Frame S a c:=fun i hi=>(k i hi).trans (h i hi)
theorem Frame.below {B:Nat} {w w':World} (h:Below B w w'):Frame (LT B) w w':=fun b hb=>h.block b hb
theorem Frame.mono {S T:Nat->Prop} {w w':World} (h:Frame S w w') (hs:∀b,T b->S b):Frame T w w':=fun b hb=>h b (hs b hb)
theorem Frame.cell {S:Nat->Prop} {w w':World} (h:Frame S w w') {p:Addr} (hp:S p.block):w'.cell? p=w.cell? p:=World.cell?_of_block (w:=w) (h p.block hp)
def Stays {α:Type} (R:cr α):Prop:=∀w w' S S' cs a,R w S cs a->Frame S w w'->(∀b,S b->S' b)->R w' S' cs a
theorem Stays.below {α:Type} {R:cr α} (hR:Stays R) {w w':World} {B B':Nat} {cs:List Value} {a:α} (h:R w (LT B) cs a) (hb:Below B w w') (hB:B<=B'):R w' (LT B') cs a:=
 hR _ _ _ _ _ _ h (Frame.below hb) fun b hb=>Nat.lt_of_lt_of_le hb hB
structure GRat where
 neg:Bool
 num:ByteArray
 den:ByteArray
deriving DecidableEq,Inhabited
structure GOpt where
 amount:GRat
 rank:Int
deriving Inhabited
structure GDisp where
 est:Int
 cl:Int
 opts:List GOpt
deriving Inhabited
def vn (n:Int):Prop:= -9223372036854775808<=n/\n<=9223372036854775807
def zj:cr Int:=fun _ _ cs n=>cs=[.int .i64 n]/\vn n
def rU8:cr Nat:=fun _ _ cs n=>cs=[.int .u8 n]/\n<256
def xM:cr Nat:=fun _ _ cs n=>cs=[.int .u16 n]/\n<65536
def aE:cr Nat:=fun _ _ cs n=>cs=[.int .u32 n]/\n<4294967296
def vV:cr GRat:=fun _ _ cs r=>cs=[.bool r.neg,.string r.num,.string r.den]/\r.num.size<=maxLen/\r.den.size<=maxLen
def rAt {α:Type} (sz:Nat) (R:cr α) (w:World) (B:Nat->Prop) (b off:Nat) (l:List α):Prop:=
 B b/\∀j (h:j<l.length),∃cs,cs.length=sz/\(∀c,c<sz->w.cell? ⟨b,off+j*sz+c,none⟩=cs[c]?)/\R w B cs l[j]
def al {α:Type} (sz:Nat) (R:cr α):cr (List α):=fun w B cs l=>
 ∃a cap,cs=[.slice a l.length cap]/\l.length<=cap/\cap<=maxLen/\(a=none->cap=0)/\(l=[]∨∃b off,a=some ⟨b,off,none⟩/\rAt sz R w B b off l)
theorem fy {α:Type} {p:List Value->α->Prop}:Stays (fun _ _ cs a=>p cs a):=fun _ _ _ _ _ _ h _ _=>h
theorem gE:Stays rU8:=fy
theorem ay:Stays aE:=fy
theorem mX:Stays vV:=fy
theorem jZ {α:Type} {sz:Nat} {R:cr α} (hR:Stays R) {w w':World} {S S':Nat->Prop} {b off:Nat} {l:List α} (h:rAt sz R w S b off l) (hb:Frame S w w') (hB:∀b,S b->S' b):rAt sz R w' S' b off l:=by
 obtain ⟨hlt,h⟩:=h;refine ⟨hB _ hlt,fun j hj=>?_⟩;obtain ⟨cs,h1,h2,h3⟩:=h j hj;exact ⟨cs,h1,fun c hc=>by rw [hb.cell (p:=⟨b,off+j*sz+c,none⟩) hlt];exact h2 c hc,hR _ _ _ _ _ _ h3 hb hB⟩
theorem aq {α:Type} {sz:Nat} {R:cr α} (hR:Stays R):Stays (al sz R):=by
 rintro w w' S S' cs l ⟨a,cap,rfl,h1,h2,h3,h4⟩ hb hB;refine ⟨a,cap,rfl,h1,h2,h3,?_⟩;rcases h4 with h4|⟨b,off,rfl,h4⟩
 ·exact .inl h4
 exact .inr ⟨b,off,rfl,jZ hR h4 hb hB⟩
theorem cc {α:Type} {l:List α} {cap:Nat} (h1:l.length<=cap) (h2:cap<=maxLen):l.length<=9223372036854775807:=by
 unfold maxLen at h2;omega
theorem rAt.get {α:Type} {sz:Nat} {R:cr α} (hR:Stays R) {w w':World} {S:Nat->Prop} {b off:Nat} {l:List α} (h:rAt sz R w S b off l) (hb:Frame S w w') {j:Nat} (hj:j<l.length):
  ∃cs,cs.length=sz/\(∀c,c<sz->w'.cell? ⟨b,off+j*sz+c,none⟩=cs[c]?)/\R w' S cs l[j]:=by
 obtain ⟨_,h⟩:=jZ hR h hb (fun _ h=>h);exact h j hj
theorem aS {k:IntKind} {a b:Int} (h:a=b):Ending.returned (.int k a)= .returned (.int k b):=by rw [h]
theorem fX {a b:ByteArray} (h:a=b):Ending.returned (.string a)= .returned (.string b):=by rw [h]
theorem _root_.Go.RowKit.Below.drewN {B:Nat} {a w:World} (h:Below B a w) (n:Nat):Below B a (w.drewN n):=⟨h.os,h.tape,h.output,h.size,h.block⟩
theorem _root_.Go.RowKit.Below.step {w a b:World} (h:Below w.heap.size w a) (h':Below a.heap.size a b):Below w.heap.size w b:=h.trans (h'.mono h.size)
def Own (w:World) (g:Nat) (E:TypeId) (n:Nat) (f:Nat->Value):Prop:=w.heap[g]? =some (.cells ((Array.range n).map f) E (0,0))
def upd (f:Nat->Value) (p:Nat) (v:Value):Nat->Value:=fun j=>if j=p then v else f j
theorem Own.lt {w:World} {g E n:Nat} {f:Nat->Value} (h:Own w g E n f):g<w.heap.size:=(Array.getElem?_eq_some_iff.1 h).1
theorem Own.cell {w:World} {g E n:Nat} {f:Nat->Value} (h:Own w g E n f) {j:Nat} (hj:j<n):w.cell? ⟨g,j,none⟩=some (f j):=by
 unfold Own at h;simp [World.cell?,h,hj]
theorem Own.frozen {w:World} {g E n:Nat} {f:Nat->Value} (h:Own w g E n f) (j:Nat):w.frozen? ⟨g,j,none⟩=false:=by
 unfold Own at h;simp [World.frozen?,h]
theorem Own.alloc {w:World} {g E n:Nat} {f:Nat->Value} (h:Own w g E n f) (o:Obj):Own (w.alloc o) g E n f:=by
 unfold Own;rw [Below.heap_alloc _ _ _ h.lt];exact h
theorem Own.below {w w':World} {B g E n:Nat} {f:Nat->Value} (h:Own w g E n f) (hb:Below B w w') (hB:g<B):Own w' g E n f:=by
 unfold Own;rw [hb.block g hB];exact h
theorem Own.drew {w:World} {g E n:Nat} {f:Nat->Value} (h:Own w g E n f):Own w.drew g E n f:=h
theorem Own.set {w:World} {g E n:Nat} {f:Nat->Value} (h:Own w g E n f) (p:Nat) (v:Value):Own (w.setCell ⟨g,p,none⟩ v) g E n (upd f p v):=by
 unfold Own at *
 rw [heap_setCell_same w g p _ E v h];congr 2;apply Array.ext
 ·simp
 intro i h1 h2;have h3:i<((Array.range n).map f).size:=by simpa using h1
 rw [Array.getElem_setIfInBounds (hj:=h3)];simp only [Array.getElem_map,Array.getElem_range,upd];by_cases e:p=i
 ·rw [if_pos e,if_pos e.symm]
 rw [if_neg e,if_neg (fun e'=>e e'.symm)]
theorem Own.other {w:World} {g E n:Nat} {f:Nat->Value} (h:Own w g E n f) {g':Nat} (hne:g'≠g) (p:Nat) (v:Value):Own (w.setCell ⟨g',p,none⟩ v) g E n f:=by
 unfold Own at *
 rw [Below.heap_setCell _ _ _ _ (fun e=>hne e.symm)];exact h
theorem Own.congr {w:World} {g E n:Nat} {f f':Nat->Value} (h:Own w g E n f) (hf:∀j,j<n->f j=f' j):Own w g E n f':=by
 unfold Own at *
 rw [h];congr 2;apply Array.ext
 ·simp
 intro i h1 h2;simp only [Array.getElem_map,Array.getElem_range];exact hf i (by simpa using h1)
theorem Own.new (w:World) (E n:Nat) (f:Nat->Value):Own (w.alloc (.cells ((Array.range n).map f) E)) w.heap.size E n f:=heap_alloc_new w _
theorem bo {P:Program} {t e:TypeId} {z:Value} {bytes:Nat} (ht:P.underlying t=some (.slice e)) (hi:(P.info? e).map (fun i=>(i.zero,i.size,i.bytes))=some (some z,1,bytes)) (hz:z.cells= #[z])
  (w:World) (n:Nat) (hb:bytes*n<=281474976710656) (hn:n<=9223372036854775807):
  (Instr.makeSlice t (.int .i64 n) (.int .i64 n)).run P w= .ok (.slice (some ⟨w.heap.size,0,none⟩) n n) (w.alloc (.cells ((Array.range n).map fun _=>z) e)):=by
 obtain ⟨i,hi1,hi2,hi3,hi4⟩:=info_parts hi;have h:=run_make (P:=P) w t e i z ht hi1 hi2 .i64 .i64 n n (by omega) (by omega) (by rw [hi4];omega) (by omega);rw [h,hi3,hz];simp [madeCells,Nat.mod_one]
theorem Own.reads {α:Type} {R:cr α} {w:World} {g E n:Nat} {f:Nat->Value} (h:Own w g E n f) {l:List α} (hl:l.length=n) (hn:n<=maxLen) (hR:∀j (hj:j<l.length),R w (LT w.heap.size) [f j] l[j]):
  al 1 R w (LT w.heap.size) [.slice (some ⟨g,0,none⟩) n n] l:=by
 refine ⟨some ⟨g,0,none⟩,n,by rw [hl],by omega,hn,by simp,.inr ⟨g,0,rfl,h.lt,fun j hj=>⟨[f j],rfl,?_,hR j hj⟩⟩⟩;intro c hc;obtain rfl:c=0:=by omega
 have:=h.cell (j:=j) (by omega);simpa using this
theorem rAt.one {α:Type} {R:cr α} {w:World} {B:Nat->Prop} {b off:Nat} {l:List α} (h:rAt 1 R w B b off l) {j:Nat} (hj:j<l.length):
  ∃v,w.cell? ⟨b,off+j,none⟩=some v/\R w B [v] l[j]:=by
 obtain ⟨_,h⟩:=h;obtain ⟨cs,h1,h2,h3⟩:=h j hj;match cs,h1 with
 |[v],_=>
  refine ⟨v,?_,h3⟩;have:=h2 0 (by omega);simpa using this
theorem rAt.i64 {w:World} {B:Nat->Prop} {b off:Nat} {l:List Int} (h:rAt 1 zj w B b off l) {j:Nat} (hj:j<l.length):w.cell? ⟨b,off+j,none⟩=some (.int .i64 l[j])/\vn l[j]:=by
 obtain ⟨v,h1,h2,h3⟩:=h.one hj;simp only [List.cons.injEq,and_true] at h2;subst h2;exact ⟨h1,h3⟩
theorem rAt.u32 {w:World} {B:Nat->Prop} {b off:Nat} {l:List Nat} (h:rAt 1 aE w B b off l) {j:Nat} (hj:j<l.length):w.cell? ⟨b,off+j,none⟩=some (.int .u32 l[j])/\l[j]<4294967296:=by
 obtain ⟨v,h1,h2,h3⟩:=h.one hj;simp only [List.cons.injEq,and_true] at h2;subst h2;exact ⟨h1,h3⟩
theorem rAt.u16 {w:World} {B:Nat->Prop} {b off:Nat} {l:List Nat} (h:rAt 1 xM w B b off l) {j:Nat} (hj:j<l.length):w.cell? ⟨b,off+j,none⟩=some (.int .u16 l[j])/\l[j]<65536:=by
 obtain ⟨v,h1,h2,h3⟩:=h.one hj;simp only [List.cons.injEq,and_true] at h2;subst h2;exact ⟨h1,h3⟩
theorem rAt.u8 {w:World} {B:Nat->Prop} {b off:Nat} {l:List Nat} (h:rAt 1 rU8 w B b off l) {j:Nat} (hj:j<l.length):w.cell? ⟨b,off+j,none⟩=some (.int .u8 l[j])/\l[j]<256:=by
 obtain ⟨v,h1,h2,h3⟩:=h.one hj;simp only [List.cons.injEq,and_true] at h2;subst h2;exact ⟨h1,h3⟩
theorem fY {P:Program} (w:World) (base:Nat) (t ty e:TypeId) (i:TypeInfo) (z:Value) (size bytes:Nat) (ht:P.underlying t=some (.slice e)) (hi:P.info? e=some i) (hz:i.zero=some z)
  (hsize:i.size=size) (hby:i.bytes=bytes) (hzs:z.cells.size=size) (hsz:0<size)
  (v:Value) (n:Nat) (xs:List Value) (hown:w.ownsRow base e size v n xs)
  (a:Addr) (m c:Nat) (news:List Value) (hl:news.length=m*size) (hnews:∀j u,news[j]? =some u->w.cell? (a.add j)=some u) (h1:∀u∈news,u.oneCell'=true)
  (h63:n+m<=maxLen) (hbytes:(n+m)*bytes<=140737488355328) (hbase:base<=w.heap.size) (hm:0<m):
  ∃v' w',(Builtin.append_ #[t,t] ty #[v,.slice (some a) m c]).run P w= .ok v' w'/\w'.ownsRow base e size v' (n+m) (xs++news)/\w.grownBy w' v.ownBlock/\
   (v'.ownBlock=v.ownBlock∨v'.ownBlock=some w.heap.size):=by
 obtain ⟨v',w',hr,h2,h3,_⟩:=run_append_own (P:=P) w base t ty e i z size bytes ht hi hz hsize hby hzs hsz v n xs hown a m c news hl hnews h1 h63 hbytes hbase;refine ⟨v',w',hr,h2,h3,?_⟩;subst hsize;subst hby
 have hsmall:n+m<=9223372036854775807:=by simp only [maxLen] at h63;omega
 rcases hown.2 with ⟨rfl,rfl⟩|⟨g,cap,cur,rfl,hbg,hg,hnc,hcm,hcs,htake⟩
 ·have hq:=run_append_nil (P:=P) w t ty e i z ht hi hz a m c news hl hnews (by omega) (by omega) (by have hb:=hbytes;simp only [Nat.zero_add] at hb;omega);rw [hq] at hr;injection hr with e1 _
  subst e1;exact .inr rfl
 by_cases hroom:n+m<=cap
 ·have hfit:n*i.size+news.length<=cur.size:=by rw [hl,hcs,←Nat.add_mul];exact Nat.mul_le_mul_right _ hroom
  have hq:=run_append_room (P:=P) w t ty e i ht hi g n cap cur hg a m c news hl hnews h1 hroom hfit;rw [hq] at hr;injection hr with e1 _
  subst e1;exact .inl rfl
 have holds:∀j u,xs[j]? =some u->w.cell? ((⟨g,0,none⟩:Addr).add j)=some u:=hown.cells (g:=g) rfl;have hq:=run_append_grow (P:=P) w t ty e i z ht hi hz ⟨g,0,none⟩ n cap xs hown.1 holds a m c news hl hnews (by omega) (by omega) (growslice_fits (by omega) hbytes);rw [hq] at hr;injection hr with e1 _
 subst e1;exact .inr rfl
abbrev eB (w:World) (v:Value):Nat->Prop:=fun b=>b<w.heap.size/\some b≠v.ownBlock
def rGrow {α:Type} (E sz:Nat) (R:cr α) (base:Nat) (w:World) (v:Value) (l:List α):Prop:=
 ∃xs,w.ownsRow base E sz v l.length xs/\∀j (hj:j<l.length),R w (eB w v) ((xs.drop (j*sz)).take sz) l[j]
theorem rGrow.nil {α:Type} (E sz:Nat) (R:cr α) (base:Nat) (w:World):rGrow E sz R base w (.slice none 0 0) ([]:List α):=
 ⟨[],World.ownsRow_nil _ _ _ _,fun j hj=>by simp at hj⟩
theorem rGrow.slice {α:Type} {E sz:Nat} {R:cr α} (hR:Stays R) {base:Nat} {w:World} {v:Value} {l:List α} (h:rGrow E sz R base w v l):
  al sz R w (LT w.heap.size) [v] l:=by
 obtain ⟨xs,⟨h1,h2⟩,h3⟩:=h;rcases h2 with ⟨rfl,h2⟩|⟨g,cap,cur,rfl,h2,h4,h5,h6,h7,h8⟩
 ·have:l=[]:=List.eq_nil_of_length_eq_zero h2;subst this;exact ⟨none,0,rfl,Nat.le_refl _,by unfold maxLen;omega,fun _=>rfl,.inl rfl⟩
 refine ⟨some ⟨g,0,none⟩,cap,rfl,h5,h6,by simp,.inr ⟨g,0,rfl,(Array.getElem?_eq_some_iff.1 h4).1,fun j hj=>⟨(xs.drop (j*sz)).take sz,?_,?_,?_⟩⟩⟩
 ·have:(j+1)*sz<=l.length*sz:=Nat.mul_le_mul_right _ hj;rw [Nat.add_mul] at this;simp [h1];omega
 ·intro c hc;have:(j+1)*sz<=l.length*sz:=Nat.mul_le_mul_right _ hj;rw [Nat.add_mul] at this;rw [List.getElem?_take,if_pos hc,List.getElem?_drop,←h8,List.getElem?_take,if_pos (by omega)];simp [World.cell?,h4]
 exact hR _ _ _ _ _ _ (h3 j hj) (Frame.refl _ _) fun b hb=>hb.1
theorem rGrow.kept {α:Type} {E sz:Nat} {R:cr α} (hR:Stays R) {base:Nat} {w w':World} {v:Value} {l:List α} (h:rGrow E sz R base w v l) (hb:Below w.heap.size w w'):rGrow E sz R base w' v l:=by
 obtain ⟨xs,h1,h3⟩:=h;refine ⟨xs,h1.kept (row:=none) ⟨hb.os,hb.tape,hb.output,hb.size,fun k hk _=>hb.block k hk⟩ (by cases v.ownBlock<;>simp),fun j hj=>hR _ _ _ _ _ _ (h3 j hj) (fun b hb'=>hb.block b hb'.1) fun b hb'=>⟨Nat.lt_of_lt_of_le hb'.1 hb.size,hb'.2⟩⟩
theorem rGrow.lt {α:Type} {E sz:Nat} {R:cr α} {base:Nat} {w:World} {v:Value} {l:List α} (h:rGrow E sz R base w v l):∀k,v.ownBlock=some k->base<=k/\k<w.heap.size:=h.choose_spec.1.lt
theorem rGrow.push {α:Type} {E sz:Nat} {R:cr α} (hR:Stays R) (hsz:0<sz) {base:Nat} {w w':World} {v v':Value} {l:List α} {x:α} {news:List Value} (h3:∀xs,w.ownsRow base E sz v l.length xs->w'.ownsRow base E sz v' (l.length+1) (xs++news))
  (h:rGrow E sz R base w v l) (hn:news.length=sz) (hg:w.grownBy w' v.ownBlock) (hv:v'.ownBlock=v.ownBlock∨v'.ownBlock=some w.heap.size) (hx:R w (eB w v) news x):rGrow E sz R base w' v' (l++[x]):=by
 obtain ⟨xs,h1,h2⟩:=h;have h4:=h3 xs h1;have hst:∀cs (a:α),R w (eB w v) cs a->R w' (eB w' v') cs a:=fun cs a hr=>hR _ _ _ _ _ _ hr (fun b hb=>hg.block b hb.1 hb.2) fun b hb=>by
  refine ⟨Nat.lt_of_lt_of_le hb.1 hg.size,?_⟩;rcases hv with hv|hv
  ·rw [hv];exact hb.2
  rw [hv];intro e;have:=Option.some.inj e;have:=hb.1;omega
 refine ⟨xs++news,by simpa using h4,fun j hj=>?_⟩;have hlen:=h1.1;by_cases hj':j<l.length
 ·have:(j+1)*sz<=l.length*sz:=Nat.mul_le_mul_right _ hj';rw [Nat.add_mul] at this;rw [List.getElem_append_left hj',List.drop_append_of_le_length (by omega),List.take_append_of_le_length (by simp;omega)];exact hst _ _ (h2 j hj')
 have hj2:j=l.length:=by simp at hj;omega
 subst hj2;have e1:(l++[x])[l.length]=x:=by simp
 rw [e1,←hlen,List.drop_left,List.take_of_length_le (by omega)];exact hst _ _ hx
end Go.Proofs.YtclkgcigacbmiaaGreatDoor
