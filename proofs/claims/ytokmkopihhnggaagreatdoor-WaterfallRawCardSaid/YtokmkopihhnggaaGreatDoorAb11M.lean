/- The abstract machine: contracts that were proved over the model, taken over. -/
import Derived.Test.YtokmkopihhnggaaGreatDoorAbMM
import Derived.Test.YtokmkopihhnggaaGreatDoorVal1M
import Derived.Test.YtokmkopihhnggaaGreatDoorProg
set_option linter.unusedVariables false
set_option linter.unusedSimpArgs false
set_option linter.defProp false
set_option linter.unusedSectionVars false
namespace Go.Proofs.YtokmkopihhnggaaGreatDoor
open Go Go.RowKit Go.Proofs.Tryz
def yY:Value->A1
 | .agg cs=> .agg (cs.toList.map .lit)
 |v=> .one (.lit v)
theorem AO {κ:Kx} {v u:Value} (h:bl κ u (yY v)):u=v:=by
 have key:∀(l vs:List Value),denVs κ vs (l.map .lit)->vs=l:=by
  intro l;induction l with
  |nil=>intro vs h;exact List.eq_nil_of_length_eq_zero h.length
  |cons x l ih=>
   intro vs h;cases vs with
   |nil=>exact h.elim
   |cons y vs=>
    have h1:=h.1;simp only [den] at h1;rw [ih vs h.2,h1.1]
 cases v with
 |agg cs=>
  obtain ⟨vs,h1,h2⟩:=h;rw [h1,key _ _ h2]
 |_=>
  simp only [yY,bl,den] at h;exact h.1
theorem pm {κ:Kx}:∀{l vs:List Value},dh κ vs (l.map yY)->vs=l
 |[],[],_=>rfl
 |[],_::_,h=>h.elim
 |_::_,[],h=>h.elim
 |x::l,v::vs,h=>by rw [AO h.1,pm h.2]
theorem bj {P:Program} {f:FuncId} (hfn:BB P f) (vals:List Value) (v:Value) (h:∀w,Calls P f vals.toArray w fun e w'=>e= .returned v/\Below w.heap.size w w'):
  aR P f (vals.map yY) (wP v):=
 ⟨hfn,fun w T vs _ hd=>by
  rw [pm hd];exact (h w).mono fun e w' ⟨he,hb⟩=>⟨v,he,hb,oz _ _⟩⟩
theorem ch {P : Program} {f : FuncId} {fn : Func} (h : P.funcs[f]? = some fn) (h2 : fn.name ≠ "runtime.NumGoroutine") (h3 : fn.body.isNone = false) : BB P f := ⟨fn, h, h2, h3⟩
def ai (r:GRat):List C:=[.lit (.bool r.neg),.lit (.string r.num),.lit (.string r.den)]
theorem AP (r:GRat):al (ai r)=true:=by simp [ai,al,ax]
theorem yZ (r:GRat) (h1:r.num.size<=500000000000) (h2:r.den.size<=500000000000):aR prog 42 [.agg (ai r)] (one (.int .i64 (cU (qOf r)))):=
 bj (ch func42 (by decide) (by kernel_rfl)) [aF r] (.int .i64 (cU (qOf r))) fun w=>AK r w h1 h2
theorem CD (r1 r2:GRat) (m n:Nat) (h1:sB m r1) (h2:sB n r2) (hm:m<=100000000000) (hn:n<=100000000000) (hm0:0<m) (hn0:0<n):
  aR prog 34 [.agg (ai r1),.agg (ai r2)] (one (.int .i64 (dM (qOf r1) (qOf r2)))):=
 bj (ch func34 (by decide) (by kernel_rfl)) [aF r1,aF r2] (.int .i64 (dM (qOf r1) (qOf r2))) fun w=>iR r1 r2 m n w h1 h2 hm hn hm0 hn0
def kL (f:Nat->AV):List Nat->Nat->AV
 |[]=>fun _=> .dead
 |i::l=>up (kL f l) i (f i)
def po (f:Hp):List Nat->Hp
 |[]=>fun _=>none
 |i::l=>up (po f l) i (f i)
theorem pp (f:Nat->AV):∀(l:List Nat) (t:Nat),kL f l t=f t∨kL f l t= .dead
 |[],_=> .inr rfl
 |i::l,t=>by
  simp only [kL];by_cases h:t=i
  ·subst h;rw [bI];exact .inl rfl
  rw [cA _ _ h];exact pp f l t
theorem u9 (f:Hp):∀(l:List Nat) (nm:Nat) (B:Blk),po f l nm=some B->f nm=some B
 |[],_,_,h=>by cases h
 |i::l,nm,B,h=>by
  simp only [po] at h;by_cases hi:nm=i
  ·subst hi;rw [bI] at h;exact h
  rw [cA _ _ hi] at h;exact u9 f l nm B h
def gG (H0 f:Hp):List Nat->Hp
 |[]=>H0
 |i::l=>up (gG H0 f l) i (f i)
theorem AQ (H0 f:Hp):∀(l:List Nat),(∀x B,H0 x=some B->fA l x=true∨f x=some B)->∀(nm:Nat) (B:Blk),gG H0 f l nm=some B->f nm=some B
 |[],h,nm,B,hk=>(h nm B hk).resolve_left (by simp [fA])
 |i::l,h,nm,B,hk=>by
  simp only [gG] at hk;by_cases hi:nm=i
  ·subst hi;rw [bI] at hk;exact hk
  rw [cA _ _ hi] at hk;have key:∀(l':List Nat),gG H0 f l' nm=some B->fA l' nm=true->f nm=some B:=by
   intro l';induction l' with
   |nil=>intro _ h;simp [fA] at h
   |cons j l' ih=>
    intro h1 h2;simp only [gG] at h1;by_cases hj:nm=j
    ·subst hj;rw [bI] at h1;exact h1
    rw [cA _ _ hj] at h1;simp only [fA,Bool.or_eq_true,beq_iff_eq] at h2;exact ih h1 (h2.resolve_left (fun e=>hj e.symm))
  have key2:∀(l':List Nat),gG H0 f l' nm=some B->fA l' nm=false->H0 nm=some B:=by
   intro l';induction l' with
   |nil=>intro h _;exact h
   |cons j l' ih=>
    intro h1 h2;simp only [gG] at h1;simp only [fA,Bool.or_eq_false_iff,beq_eq_false_iff_ne,ne_eq] at h2;rw [cA _ _ (fun e=>h2.1 e.symm)] at h1;exact ih h1 h2.2
  cases hh:fA l nm with
  |true=>exact key l hk hh
  |false=>
   have h3:=key2 l hk hh;refine (h nm B h3).resolve_left ?_;simp only [fA,hh,Bool.or_false];simp only [beq_iff_eq];exact fun e=>hi e.symm
def Wk (e:En) (k0:Kx) (N:Nat) (st st2:St):Prop:=∀a w,Rel e k0 N st a w->Rel e k0 N st2 a w
section
variable {P : Program} {e : En} {k0 : Kx} {N : Nat} {st st2 st3 : St} {Q : Exit → St → Prop}
theorem Wk.refl (st:St):Wk e k0 N st st:=fun _ _ h=>h
theorem Wk.trans (h:Wk e k0 N st st2) (k:Wk e k0 N st2 st3):Wk e k0 N st st3:=fun a w hr=>k a w (h a w hr)
theorem aI (l m:List Nat):Wk e k0 N st ⟨kL st.tm l,po st.H m,st.nx,st.nb⟩:=fun a w hr=>jq _ _ (pp _ l) (u9 _ m) hr
theorem fP (H0:Hp) (l m:List Nat) (h:∀x B,H0 x=some B->fA m x=true∨st.H x=some B):Wk e k0 N st ⟨kL st.tm l,gG H0 st.H m,st.nx,st.nb⟩:=fun a w hr=>jq _ _ (pp _ l) (AQ _ _ m h) hr
theorem eC {c:Code} (H0:Hp) (l m:List Nat) (h:∀x B,H0 x=some B->fA m x=true∨st.H x=some B) (h2:Awp P e k0 N c Q ⟨kL st.tm l,gG H0 st.H m,st.nx,st.nb⟩):Awp P e k0 N c Q st:=jT _ (fP H0 l m h) h2
theorem cm {c:Code} (h:Wk e k0 N st st2) (h2:Awp P e k0 N c Q st2):Awp P e k0 N c Q st:=jT st2 h h2
theorem aQ {c:Code} (l m:List Nat) (h2:Awp P e k0 N c Q ⟨kL st.tm l,po st.H m,st.nx,st.nb⟩):Awp P e k0 N c Q st:=jT _ (aI l m) h2
theorem gS {c:Code} (t d:Nat) (E:TypeId) (sz:Nat) (hsz:sz≠0) (htm:st.tm t= .val (.one (.lit (.slice none 0 0)))) (h:Awp P e k0 N c Q ⟨up st.tm t (.val (.one (.own d st.nx 0 sz))),up st.H d (some ⟨st.nx,E,sz,0,[]⟩),st.nx+1,st.nb⟩):Awp P e k0 N c Q st:=
 jT _ (fun _ _ hr=>Ec E sz hsz htm hr) h
theorem lX {c:Code} (nm off d:Nat) (B:Blk) (E:TypeId) (sz:Nat) (hsz':sz≠0) (hB:st.H nm=some B) (hne:nm≠d) (hsz:B.sz≠0) (hc:B.cs[off]? =some (.lit (.slice none 0 0)))
  (h:Awp P e k0 N c Q ⟨st.tm,up (up st.H d (some ⟨st.nx,E,sz,0,[]⟩)) nm (some {B with cs:=B.cs.set off (.own d st.nx 0 sz)}),st.nx+1,st.nb⟩):Awp P e k0 N c Q st:=
 jT _ (fun _ _ hr=>lO E sz hsz' hB hne hsz hc hr) h
theorem gT {c:Code} {t nm s n sz:Nat} {B:Blk} (htm:st.tm t= .val (.one (.own nm s n sz))) (hB:st.H nm=some B) (hsz:sz≠0) (hs:B.st=s) (h:Awp P e k0 N c Q ⟨up st.tm t (.val (.one (.sh sz n B.cs))),up st.H nm none,st.nx,st.nb⟩):Awp P e k0 N c Q st:=
 jT _ (fun _ _ hr=>uC hB hsz hs htm hr) h
theorem aM {c:Code} (I:Nat->St->Prop) (n0:Nat) (h0:I n0 st) (round:∀n st,I n st->Awp P e k0 N c (jf (fun st'=>∃st2,Wk e k0 N st' st2/\∃m,m<n/\I m st2) Q) st):Awp P e k0 N (.loop c) Q st:=by
 refine BM (fun n st=>∃st2,Wk e k0 N st st2/\I n st2) n0 ⟨st,Wk.refl st,h0⟩ fun n st ⟨st2,hw,hI⟩=>?_
 refine cm hw (lN (round n st2 hI) fun ex st' hq=>?_);cases ex with
 |normal=>
  obtain ⟨st3,h1,m,h2,h3⟩:=hq;exact ⟨m,h2,st3,h1,h3⟩
 |_=>exact hq
theorem Ek {x y:Code} (M:St->Prop) (h:Awp P e k0 N x (jf (fun st'=>∃st2,Wk e k0 N st' st2/\M st2) Q) st) (h2:∀st2,M st2->Awp P e k0 N y Q st2):Awp P e k0 N (.seq x y) Q st:=by
 refine n8 (lN h fun ex st' hq=>?_);cases ex with
 |normal=>
  obtain ⟨st2,h1,h3⟩:=hq;exact cm h1 (h2 st2 h3)
 |_=>exact hq
end
def mkT:List (Nat×AV)->Nat->AV
 |[]=>fun _=> .dead
 |x::l=>up (mkT l) x.1 x.2
def bZ (H0:Hp):List (Nat×Blk)->Hp
 |[]=>H0
 |x::l=>up (bZ H0 l) x.1 (some x.2)
def mkH:List (Nat×Blk)->Hp
 |[]=>fun _=>none
 |x::l=>up (mkH l) x.1 (some x.2)
theorem El (n:Int):inK .i64 n↔ -9223372036854775808<=n/\n<=9223372036854775807:=by
 have h1:IntKind.i64.min= -9223372036854775808:=by decide
 have h2:IntKind.i64.max=9223372036854775807:=by decide
 unfold inK;rw [h1,h2]
theorem AR (z:List C):dq 0 z=[]:=rfl
theorem j9 (n:Nat) (z:List C):dq (n+1) z=z++dq n z:=by simp [dq,List.replicate_succ]
theorem y5 (cs:List C) (off:Nat):spl cs off []=cs:=by simp [spl]
theorem rL (c d:C) (cs ds:List C):spl (c::cs) 0 (d::ds)=d::spl cs 0 ds:=by simp [spl]
theorem vd (c:C) (cs ds:List C) (n:Nat):spl (c::cs) (n+1) ds=c::spl cs n ds:=by
 simp only [spl,List.take_succ_cons,List.cons_append];rw [show n+1+ds.length=(n+ds.length)+1 by omega,List.drop_succ_cons]
def SS:=And.intro @xd (And.intro @xe (And.intro @xh (And.intro @xi (And.intro @BP (And.intro @BQ (And.intro @D3.eq_def (And.intro @yD.eq_def (And.intro @lL.eq_def (And.intro @lJ.eq_def (And.intro @lK.eq_def (And.intro @gd.eq_def (And.intro @f7.eq_def (And.intro @eff.eq_def (And.intro @ev.eq_def (And.intro @wP.eq_def (And.intro @cellsOf.eq_def (And.intro @A1.cells.eq_def (And.intro @fe.eq_def (And.intro @ui.eq_def (And.intro @lH.eq_def (And.intro @jP.eq_def (And.intro @jQ.eq_def (And.intro @FB.eq_def (And.intro @bnd.eq_def (And.intro @cut.eq_def (And.intro @D4.eq_def (And.intro @jo.eq_1 (And.intro @jo.eq_2 (And.intro @lM.eq_def (And.intro @gY.eq_1 (And.intro @gY.eq_2 (And.intro @fK.eq_def (And.intro @al.eq_1 (And.intro @al.eq_2 (And.intro @ax.eq_1 (And.intro @ax.eq_2 (And.intro @ax.eq_3 (And.intro @ax.eq_4 (And.intro @oA.eq_def (And.intro @aU.eq_def (And.intro @aD.eq_def (And.intro @nC.eq_def (And.intro @wW.eq_def (And.intro @wV.eq_1 (And.intro @wV.eq_2 (And.intro @Ap.eq_def (And.intro @D5.eq_def (And.intro @fy.eq_def (And.intro @ini.eq_def (And.intro @sQ.eq_1 (And.intro @sQ.eq_2 (And.intro @DZ.eq_def (And.intro @nz.eq_1 (And.intro @nz.eq_2 (And.intro @iG.eq_def (And.intro @fa.eq_1 (And.intro @fa.eq_2 (And.intro @kL.eq_1 (And.intro @kL.eq_2 (And.intro @po.eq_1 (And.intro @po.eq_2 (And.intro @yE.eq_def (And.intro @mkT.eq_1 (And.intro @mkT.eq_2 (And.intro @mkH.eq_1 (And.intro @mkH.eq_2 (And.intro @El (And.intro @AR (And.intro @j9 (And.intro @y5 (And.intro @rL (And.intro @vd (And.intro @FH (And.intro @Ea (And.intro @FI (And.intro @Eb (And.intro @FJ (And.intro @Hf (And.intro @Hg (And.intro @Hh (And.intro @Hi (And.intro @Hj (And.intro @Hk (And.intro @Au (And.intro @Av (And.intro @Aw (And.intro @SchO.mk.eq_1 (And.intro @SchO.mk.eq_2 (And.intro @SchO.mk.eq_3 (And.intro @gG.eq_1 (And.intro @gG.eq_2 (And.intro @bZ.eq_1 (And.intro @bZ.eq_2 (And.intro @xb (And.intro @D9 (And.intro @wU.eq_def (And.intro @wT.eq_1 (And.intro @wT.eq_2 (And.intro @jS.eq_def (And.intro @Am.eq_def (And.intro @Bz.eq_def (And.intro @yC.eq_def (And.intro @sO.eq_def (And.intro @fA.eq_1 (And.intro @fA.eq_2 (And.intro @FM (And.intro @FN (And.intro @Ay (And.intro @Az (And.intro @FE.eq_def (And.intro @oK.eq_1 (And.intro @oK.eq_2 (And.intro @Ax (And.intro @FO (And.intro @FP (And.intro @FK (And.intro @FQ (And.intro @FR (And.intro @FS (And.intro @FT (And.intro @aB (And.intro @sS (And.intro @wY (And.intro @At (And.intro @qJ (And.intro @wZ (And.intro @uA (And.intro @uB (And.intro @BO (And.intro @Option.bind_some.{0,0} (And.intro @Option.bind_none.{0,0} (And.intro @Option.map_some.{0,0} (And.intro @Option.map_none.{0,0} (And.intro @List.toList_toArray.{0} (And.intro @List.map_cons.{0,0} (And.intro @List.map_nil.{0,0} (And.intro @List.drop_succ_cons.{0} (And.intro @List.drop_zero.{0} (And.intro @List.take_succ_cons.{0} (And.intro @List.take_zero.{0} (And.intro @List.length_cons.{0} (And.intro @List.length_nil.{0} (And.intro @List.getElem?_cons_zero.{0} (And.intro @List.getElem?_cons_succ.{0} (And.intro @List.getElem?_toArray.{0} (And.intro @true_and (And.intro @and_true (And.intro @Bool.or_false (And.intro @Bool.false_or (And.intro @Bool.and_true (And.intro @decide_true (And.intro @decide_false (And.intro @not_true_eq_false (And.intro @not_false_eq_true (And.intro @Nat.zero_add (And.intro @true_or (And.intro @or_true (And.intro @exists_eq_left'.{1} (And.intro @Option.some.injEq.{0} (And.intro @Bool.true_and (And.intro @Bool.false_and (And.intro @Bool.and_self (And.intro @Bool.not_true (And.intro @Bool.not_false (And.intro @List.all_cons.{0} (And.intro @List.all_nil.{0} (And.intro @List.set_cons_zero.{0} (And.intro @List.set_cons_succ.{0} (And.intro @if_true.{1} (And.intro @if_false.{1} (And.intro @Nat.add_zero (And.intro @Nat.zero_mul (And.intro @Nat.mul_one (And.intro @Nat.one_mul (And.intro @List.nil_append.{0} (And.intro @List.cons_append.{0} (And.intro @List.append_nil.{0} (@Int.toNat_natCast))))))))))))))))))))))))))))))))))))))))))))))))))))))))))))))))))))))))))))))))))))))))))))))))))))))))))))))))))))))))))))))))))))))))))))))))))))))))))))))))))))))))))))))))))
def aA {α:Type} (f:α->List C) (l:List α):List C:=(l.map f).flatten
theorem ve {α:Type} (f:α->List C):aA f []=[]:=rfl
theorem cf {α:Type} (f:α->List C) (a:α) (l:List α):aA f (a::l)=f a++aA f l:=by simp [aA]
theorem fQ {α:Type} (f:α->List C) (l m:List α):aA f (l++m)=aA f l++aA f m:=by simp [aA]
theorem a7 {α:Type} (f:α->List C) (l:List α) (a:α):aA f (l++[a])=aA f l++f a:=by simp [aA]
theorem bo {α:Type} {f:α->List C} {sz:Nat} (hf:∀a,(f a).length=sz):∀l:List α,(aA f l).length=l.length*sz
 |[]=>by simp [aA]
 |a::l=>by rw [cf,List.length_append,hf,bo hf l,List.length_cons,Nat.succ_mul,Nat.add_comm]
theorem rM {α:Type} {f:α->List C} {sz:Nat} (hf:∀a,(f a).length=sz):∀(l:List α) (k:Nat),(aA f l).drop (k*sz)=aA f (l.drop k)
 |l,0=>by simp
 |[],k+1=>by simp [aA]
 |a::l,k+1=>by
  rw [cf,Nat.succ_mul,Nat.add_comm,←List.drop_drop,List.drop_left' (hf a),rM hf l k,List.drop_succ_cons]
theorem aO {α:Type} {f:α->List C} {sz:Nat} (hf:∀a,(f a).length=sz) (l:List α) (k:Nat) (h:k<l.length):(aA f l).drop (k*sz)=f l[k]++aA f (l.drop (k+1)):=by
 rw [rM hf,List.drop_eq_getElem_cons h,cf]
theorem AS {α:Type} {f:α->List C} {sz:Nat} (hf:∀a,(f a).length=sz) (l:List α) (k:Nat):(aA f l).take (k*sz)=aA f (l.take k):=by
 rcases Nat.lt_or_ge k l.length with h|h
 ·have h1:aA f l=aA f (l.take k)++aA f (l.drop k):=by rw [←fQ,List.take_append_drop]
  rw [h1,List.take_left'];rw [bo hf,List.length_take,Nat.min_eq_left (by omega)]
 rw [List.take_of_length_le h,List.take_of_length_le];rw [bo hf];exact Nat.mul_le_mul_right _ h
theorem nJ (a b:List C):al (a++b)=(al a&&al b):=by
 induction a with
 |nil=>simp [al]
 |cons c a ih=>simp [al,ih,Bool.and_assoc]
theorem ab {α:Type} {f:α->List C} (hf:∀a,al (f a)=true):∀l:List α,al (aA f l)=true
 |[]=>rfl
 |a::l=>by rw [cf,nJ,hf,ab hf l];rfl
theorem tt {α:Type} (a b c d:List α) (h:b.length=d.length):spl (a++(b++c)) a.length d=a++(d++c):=by
 simp [spl,←h,List.drop_append]
section
variable {P : Program} {e : En} {k0 : Kx} {N : Nat} {st : St} {Q : Exit → St → Prop} {ops : Array Oper}
def mM (zP:Program) (ze:En) (zk:Kx) (zN:Nat):Nat->Code->(Exit->St->Prop)->Code×(Exit->St->Prop)
 |n+1,.seq x y,zQ=>mM zP ze zk zN n x (jf (Awp zP ze zk zN y zQ) zQ)
 |n+1,.block i c,zQ=>mM zP ze zk zN n c (lh i zQ)
 |_,c,zQ=>(c,zQ)
theorem Em (n:Nat):∀(c:Code) (Q:Exit->St->Prop),Awp P e k0 N (mM P e k0 N n c Q).1 (mM P e k0 N n c Q).2 st->Awp P e k0 N c Q st:=by
 induction n with
 |zero=>intro c Q h;cases c<;>exact h
 |succ n ih=>
  intro c Q h;cases c with
  |seq x y=>exact n8 (ih _ _ h)
  |block i c=>exact ri (ih _ _ h)
  |_=>exact h
theorem awL {c x:Code} {Q':Exit->St->Prop} (hc:mM P e k0 N 99 c Q=(x,Q')) (h:Awp P e k0 N x Q' st):Awp P e k0 N c Q st:=Em 99 c Q (by rw [hc];exact h)
def gz1 (n:Nat):Option (Nat×Bool):=if n=0 then none else some (n/2-1,n%2==1)
def gz:List Nat->List (Option (Nat×Bool))
 |[]=>[]
 |n::l=>gz1 n::gz l
theorem awR (I:List Nat) {id:Nat} {l:List Oper} {c:Code} {Q':Exit->St->Prop} (cd:List Nat) {gs:List (Option (Nat×Bool))} (h:AL P N I (Q' .normal) l gs st) (hgs:gz cd=gs:=by simp only [gz.eq_1,gz.eq_2,gz1.eq_1,seval,reduceIte];rfl) (hc:mM P e k0 N 99 c Q=(.region id ops false,Q'):=by rfl) (hl:ops.toList=l:=by rfl) (hg:dj ops=gs:=by kernel_rfl) (hN:decide (N<1000000)=true:=by decide):Awp P e k0 N c Q st:=awL hc (oN I hl hg hN h)
theorem awT {c:Operand} {b x y:Code} {Q':Exit->St->Prop} (h:Awp P e k0 N x Q' st) (hb:mM P e k0 N 99 b Q=(.cond c x y,Q'):=by rfl) (hc:ev st c= .val (.one (.lit (.bool true))):=by rfl):Awp P e k0 N b Q st:=awL hb (uz true hc (fun _=>h) (fun h=>by cases h))
theorem awF {c:Operand} {b x y:Code} {Q':Exit->St->Prop} (h:Awp P e k0 N y Q' st) (hb:mM P e k0 N 99 b Q=(.cond c x y,Q'):=by rfl) (hc:ev st c= .val (.one (.lit (.bool false))):=by rfl):Awp P e k0 N b Q st:=awL hb (uz false hc (fun h=>by cases h) (fun _=>h))
theorem awK {c:Code} {Q':Exit->St->Prop} (h:Q' .normal st) (hb:mM P e k0 N 99 c Q=(.skip,Q'):=by rfl):Awp P e k0 N c Q st:=awL hb (BJ h)
theorem awX {c:Code} {Q':Exit->St->Prop} (h:Q' .ret st) (hb:mM P e k0 N 99 c Q=(.ret,Q'):=by rfl):Awp P e k0 N c Q st:=awL hb (D8 h)
theorem awQ {c:Code} {i:Nat} {Q':Exit->St->Prop} (h:Q' (.exit i) st) (hb:mM P e k0 N 99 c Q=(.exit i,Q'):=by rfl):Awp P e k0 N c Q st:=awL hb (BL h)
theorem ob {p q:Prop} (hq:q) (hp:p:=by first|omega|(simp only [List.length_cons];omega)|exact ⟨⟨by omega,by omega⟩,rfl⟩|rfl):p/\q:=⟨hp,hq⟩
def scq:List Nat->Sch->Sch
 |[],s=>s
 |n::l,s=> .cons (n/2) (n%2==1) (scq l s)
def ALn (P:Program) (N:Nat) (Q:St->Prop):List Oper->St->Prop
 |[],st=>Q st
 |o::os,st=>f7 P N [] st o (ALn P N Q os)
theorem Eo {Q:St->Prop}:ALn P N Q [] st=Q st:=rfl
theorem vf {Q:St->Prop} {o:Oper} {os:List Oper}:ALn P N Q (o::os) st=f7 P N [] st o (ALn P N Q os):=rfl
theorem CE {Q:St->Prop}:∀l:List Oper,ALn P N Q l=AL P N [] Q l (l.map fun _=>none)
 |[]=>by funext st;rfl
 |o::os=>by
  funext st;rw [vf,CE os];rfl
theorem y6 {α β:Type}:∀(xs:List (Option β)) (l:List α),xs.all Option.isNone=true->l.length=xs.length->xs=l.map fun _=>(none:Option β)
 |[],[],_,_=>rfl
 |x::xs,a::l,h,hl=>by
  simp only [List.all_cons,Bool.and_eq_true,Option.isNone_iff_eq_none] at h;obtain ⟨rfl,h2⟩:=h;have e:=y6 xs l h2 (by simpa using hl);rw [List.map_cons];exact congrArg _ e
 |[],_::_,_,hl=>by simp at hl
 |_::_,[],_,hl=>by simp at hl
theorem awN {id:Nat} {l:List Oper} {c:Code} {Q':Exit->St->Prop} (h:ALn P N (Q' .normal) l st) (hc:mM P e k0 N 99 c Q=(.region id ops false,Q'):=by rfl) (hl:ops.toList=l:=by rfl) (hg:(dj ops).all Option.isNone=true:=by kernel_rfl) (hN:decide (N<1000000)=true:=by decide):Awp P e k0 N c Q st:=
 awL hc (oN [] hl (y6 (dj ops) l hg (by rw [←hl];simp [dj])) hN (by rw [←CE];exact h))
def scT:Nat->Nat->Sch->Sch
 |_,0,s=>s
 |i,n+1,s=> .cons i true (scT (i+1) n s)
def zS:=And.intro (And.intro @Eo @vf) (And.intro SS @ne_eq.{1})
theorem zT:type_of%zS:=zS
theorem awD (s:Sch) (cd:List Nat) {gs:List (Option (Nat×Bool))} {id:Nat} {r:SchO} {c:Code} {Q':Exit->St->Prop} (h:AT P N (Q' .normal) r st) (hgs:gz cd=gs:=by simp only [gz.eq_1,gz.eq_2,gz1.eq_1,seval,reduceIte];rfl) (hc:mM P e k0 N 99 c Q=(.region id ops true,Q'):=by rfl) (hm:P.follows .mixedOrders=true:=by kernel_rfl)
 (hB:(Region.noSelect ops&&decide (s.len=ops.size)&&fx .any ops (lg ops) s (Array.replicate ops.size false))=true:=by kernel_rfl) (hg:dj ops=gs:=by kernel_rfl) (hr:SchO.mk ops gs s=some r:=by simp only [scq.eq_1,scq.eq_2,scT.eq_1,scT.eq_2,(id zS),seval];rfl) (hN:decide (N<1000000)=true:=by decide):Awp P e k0 N c Q st:=awL hc (Ar hm s hB hg hr hN h)
theorem awS {zP:Program} {ze:En} {zk:Kx} {zN:Nat} {zs:St} {zQ:Exit->St->Prop} {zx zy:Code} (zh:Awp zP ze zk zN zx (jf (Awp zP ze zk zN zy zQ) zQ) zs):Awp zP ze zk zN (.seq zx zy) zQ zs:=n8 zh
theorem awB {zP:Program} {ze:En} {zk:Kx} {zN:Nat} {zs:St} {zQ:Exit->St->Prop} {zi:Nat} {zc:Code} (zh:Awp zP ze zk zN zc (lh zi zQ) zs):Awp zP ze zk zN (.block zi zc) zQ zs:=ri zh
end
theorem tf0:elT prog 47=some (46,5,56):=by kernel_rfl
theorem tf1:arT prog 48=none:=by kernel_rfl
theorem tf2:elT prog 48=some (47,1,24):=by kernel_rfl
theorem tf3:ldT prog 47=some (false,1):=by kernel_rfl
theorem tf4:(prog).underlying 3=some (.int .i64):=by kernel_rfl
theorem tf5:zrT prog 46=some [.int .i64 0,.bool false,.bool false,.string ay,.string ay]:=by kernel_rfl
theorem tf6:arT prog 47=none:=by kernel_rfl
theorem tf7:elT prog 58=some (3,1,8):=by kernel_rfl
theorem tf8:foT prog 50 0=some (0,48):=by kernel_rfl
theorem tf9:foT prog 46 0=some (0,3):=by kernel_rfl
theorem xE:ldT prog 48=some (false,1):=by kernel_rfl
theorem AU:ldT prog 46=some (true,5):=by kernel_rfl
theorem jz:ldT prog 3=some (false,1):=by kernel_rfl
theorem IX:zrT prog 3=some [.int .i64 0]:=by kernel_rfl
theorem Gc:arT prog 133=none:=by kernel_rfl
theorem Gd:elT prog 133=some (4,1,1):=by kernel_rfl
theorem Ep:foT prog 46 1=some (1,4):=by kernel_rfl
theorem CF:foT prog 46 2=some (2,32):=by kernel_rfl
theorem cD:ldT prog 32=some (true,3):=by kernel_rfl
theorem tu:ldT prog 4=some (false,1):=by kernel_rfl
theorem AW:arT prog 34=none:=by kernel_rfl
theorem vg:arT prog 33=none:=by kernel_rfl
theorem Eq:arT prog 58=none:=by kernel_rfl
theorem tv:elT prog 34=some (50,1,24):=by kernel_rfl
theorem mN:elT prog 33=some (38,5,56):=by kernel_rfl
theorem Hr:foT prog 38 0=some (0,3):=by kernel_rfl
theorem Er:foT prog 38 1=some (1,3):=by kernel_rfl
theorem vh:foT prog 38 2=some (2,32):=by kernel_rfl
theorem Ge:foT prog 36 0=some (0,32):=by kernel_rfl
theorem pq:foT prog 36 1=some (3,33):=by kernel_rfl
theorem tw:foT prog 36 2=some (4,34):=by kernel_rfl
theorem tz:ldT prog 34=some (false,1):=by kernel_rfl
theorem pr:ldT prog 33=some (false,1):=by kernel_rfl
theorem vi:ldT prog 50=some (true,1):=by kernel_rfl
theorem CG:ldT prog 38=some (true,5):=by kernel_rfl
theorem AX:zrT prog 50=some [.slice none 0 0]:=by kernel_rfl
theorem xF:zrT prog 38=some [.int .i64 0,.int .i64 0,.bool false,.string ay,.string ay]:=by kernel_rfl
theorem Hs:zrT prog 4=some [.bool false]:=by kernel_rfl
theorem ic:ldT prog 36=some (true,5):=by kernel_rfl
theorem Es:foT prog 32 1=some (1,9):=by kernel_rfl
theorem IY:foT prog 32 2=some (2,9):=by kernel_rfl
theorem Et:ldT prog 9=some (false,1):=by kernel_rfl
theorem IZ:(prog).underlying 9=some .string:=by kernel_rfl
theorem gH:plT prog 32=some [(0,1),(1,1),(2,1)]:=by kernel_rfl
theorem dN:zrT prog 32=some [.bool false,.string ay,.string ay]:=by kernel_rfl
theorem I0:foT prog 32 0=some (0,4):=by kernel_rfl
theorem Ht:(prog).underlying 4=some .bool:=by kernel_rfl
theorem Gf:elT prog 188=some (230,4,48):=by kernel_rfl
theorem Gg:foT prog 190 0=some (0,188):=by kernel_rfl
theorem Eu:foT prog 190 1=some (1,32):=by kernel_rfl
theorem Gh:ldT prog 188=some (false,1):=by kernel_rfl
theorem I1:plT prog 230=some [(0,1),(1,3)]:=by kernel_rfl
theorem Gi:zrT prog 230=some [.int .i64 0,.bool false,.string ay,.string ay]:=by kernel_rfl
theorem pt:arT prog 79=none:=by kernel_rfl
theorem ll:elT prog 79=some (32,3,40):=by kernel_rfl
theorem AY:foT prog 200 0=some (0,79):=by kernel_rfl
theorem Gj:foT prog 200 1=some (1,32):=by kernel_rfl
theorem nX:ldT prog 79=some (false,1):=by kernel_rfl
theorem CH:arT prog 138=none:=by kernel_rfl
theorem AZ:elT prog 138=some (190,4,64):=by kernel_rfl
theorem Ev:ldT prog 190=some (true,4):=by kernel_rfl
theorem Ew:zrT prog 190=some [.slice none 0 0,.bool false,.string ay,.string ay]:=by kernel_rfl
theorem Hu:arT prog 188=none:=by kernel_rfl
theorem Hv:foT prog 230 0=some (0,3):=by kernel_rfl
theorem Hw:foT prog 230 1=some (1,32):=by kernel_rfl
theorem Hx:ldT prog 230=some (true,4):=by kernel_rfl
theorem Gk:foT prog 193 0=some (0,58):=by kernel_rfl
theorem Gl:ldT prog 58=some (false,1):=by kernel_rfl
theorem Ex:foT prog 193 1=some (1,138):=by kernel_rfl
theorem xG:ldT prog 138=some (false,1):=by kernel_rfl
theorem CI:ldT prog 193=some (true,2):=by kernel_rfl
theorem I2:plT prog 193=some [(0,1),(1,1)]:=by kernel_rfl
theorem A0:zrT prog 193=some [.slice none 0 0,.slice none 0 0]:=by kernel_rfl
theorem CJ:elT prog 139=some (193,2,48):=by kernel_rfl
theorem Ey:foT prog 141 1=some (1,138):=by kernel_rfl
theorem CL:foT prog 141 2=some (2,139):=by kernel_rfl
theorem Hy:foT prog 141 3=some (3,32):=by kernel_rfl
theorem CN:ldT prog 139=some (false,1):=by kernel_rfl
theorem CP:ldT prog 141=some (true,6):=by kernel_rfl
theorem I3:plT prog 141=some [(0,1),(1,1),(2,1),(3,3)]:=by kernel_rfl
theorem I4:zrT prog 141=some [.int .i64 0,.slice none 0 0,.slice none 0 0,.bool false,.string ay,.string ay]:=by kernel_rfl
theorem Hz:foT prog 141 0=some (0,3):=by kernel_rfl
theorem Gm:plT prog 200=some [(0,1),(1,3)]:=by kernel_rfl
theorem Gn:zrT prog 200=some [.slice none 0 0,.bool false,.string ay,.string ay]:=by kernel_rfl
theorem Ez:arT prog 139=none:=by kernel_rfl
theorem HJ:plT prog 50=some [(0,1)]:=by kernel_rfl
theorem HW:plT prog 38=some [(0,1),(1,1),(2,3)]:=by kernel_rfl
theorem H5:plT prog 36=some [(0,3),(3,1),(4,1)]:=by kernel_rfl
theorem H6:zrT prog 36=some [.bool false,.string ay,.string ay,.slice none 0 0,.slice none 0 0]:=by kernel_rfl
theorem H7:arT prog 280=none:=by kernel_rfl
theorem EA:elT prog 280=some (283,4,48):=by kernel_rfl
theorem H8:foT prog 283 1=some (1,32):=by kernel_rfl
theorem Gp:elT prog 244=some (280,1,24):=by kernel_rfl
theorem H9:plT prog 283=some [(0,1),(1,3)]:=by kernel_rfl
theorem Ia:zrT prog 280=some [.slice none 0 0]:=by kernel_rfl
theorem Ib:zrT prog 283=some [.int .i64 0,.bool false,.string ay,.string ay]:=by kernel_rfl
theorem Gq:foT prog 214 4=some (8,32):=by kernel_rfl
theorem Gr:foT prog 214 5=some (11,4):=by kernel_rfl
theorem EB:foT prog 214 0=some (0,79):=by kernel_rfl
theorem EC:foT prog 214 1=some (1,79):=by kernel_rfl
theorem Fl:foT prog 214 2=some (2,32):=by kernel_rfl
theorem CQ:foT prog 214 3=some (5,32):=by kernel_rfl
theorem Ic:arT prog 244=none:=by kernel_rfl
theorem Id:foT prog 283 0=some (0,3):=by kernel_rfl
theorem Ie:ldT prog 280=some (false,1):=by kernel_rfl
theorem If:plT prog 214=some [(0,1),(1,1),(2,3),(5,3),(8,3),(11,1)]:=by kernel_rfl
theorem Ig:zrT prog 214=some [.slice none 0 0,.slice none 0 0,.bool false,.string ay,.string ay,.bool false,.string ay,.string ay,.bool false,.string ay,.string ay,.bool false]:=by kernel_rfl
theorem Ih:plT prog 46=some [(0,1),(1,1),(2,3)]:=by kernel_rfl
theorem Ii:zrT prog 47=some [.slice none 0 0]:=by kernel_rfl
end Go.Proofs.YtokmkopihhnggaaGreatDoor
