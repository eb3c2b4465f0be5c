/- The abstract machine: contracts that were proved over the model, taken over. -/
import Derived.Test.YtokmkopihhnggaaGreatDoorAbMM
import Derived.Test.YtokmkopihhnggaaGreatDoorQ3M
import Derived.Test.YtokmkopihhnggaaGreatDoorProg
set_option linter.unusedVariables false
set_option linter.unusedSimpArgs false
set_option linter.defProp false
set_option linter.unusedSectionVars false
namespace Go.Proofs.YtokmkopihhnggaaGreatDoor
open Go Go.RowKit Go.Proofs.Tryz
def Aj:Value->A1
 | .agg cs=> .agg (cs.toList.map .lit)
 |v=> .one (.lit v)
theorem BV {κ:Kx} {v u:Value} (h:bw κ u (Aj v)):u=v:=by
 have key:∀(l vs:List Value),denVs κ vs (l.map .lit)->vs=l:=by
  intro l;induction l with
  |nil=>intro vs h;exact List.eq_nil_of_length_eq_zero h.length
  |cons x l ih=>
   intro vs h;cases vs with
   |nil=>exact h.elim
   |cons y vs=>
    have h1:=h.1;simp only [den] at h1;rw [ih vs h.2,h1.1]
 cases v with
 |agg cs=>
  obtain ⟨vs,h1,h2⟩:=h;rw [h1,key _ _ h2]
 |_=>
  simp only [Aj,bw,den] at h;exact h.1
theorem qh {κ:Kx}:∀{l vs:List Value},dF κ vs (l.map Aj)->vs=l
 |[],[],_=>rfl
 |[],_::_,h=>h.elim
 |_::_,[],h=>h.elim
 |x::l,v::vs,h=>by rw [BV h.1,qh h.2]
theorem bf {P:Program} {f:FuncId} (hfn:Dz P f) (vals:List Value) (v:Value) (h:∀w,Calls P f vals.toArray w fun e w'=>e= .returned v/\Below w.heap.size w w'):
  aU P f (vals.map Aj) (yo v):=
 ⟨hfn,fun w T vs _ hd=>by
  rw [qh hd];exact (h w).mono fun e w' ⟨he,hb⟩=>⟨v,he,hb,pS _ _⟩⟩
theorem b8 {P : Program} {f : FuncId} {fn : Func} (h : P.funcs[f]? = some fn) (h2 : fn.name ≠ "runtime.NumGoroutine") (h3 : fn.body.isNone = false) : Dz P f := ⟨fn, h, h2, h3⟩
def ai (r:GRat):List C:=[.lit (.bool r.neg),.lit (.string r.num),.lit (.string r.den)]
theorem BW (r:GRat):al (ai r)=true:=by simp [ai,al,aw]
theorem Ak (r:GRat) (h1:r.num.size<=500000000000) (h2:r.den.size<=500000000000):aU prog 42 [.agg (ai r)] (one (.int .i64 (cr (qOf r)))):=
 bf (b8 func42 (by decide) (by kernel_rfl)) [aE r] (.int .i64 (cr (qOf r))) fun w=>BA r w h1 h2
theorem DP (r1 r2:GRat) (m n:Nat) (h1:sB m r1) (h2:sB n r2) (hm:m<=100000000000) (hn:n<=100000000000) (hm0:0<m) (hn0:0<n):
  aU prog 34 [.agg (ai r1),.agg (ai r2)] (one (.int .i64 (dQ (qOf r1) (qOf r2)))):=
 bf (b8 func34 (by decide) (by kernel_rfl)) [aE r1,aE r2] (.int .i64 (dQ (qOf r1) (qOf r2))) fun w=>js r1 r2 m n w h1 h2 hm hn hm0 hn0
def lP (f:Nat->AV):List Nat->Nat->AV
 |[]=>fun _=> .dead
 |i::l=>up (lP f l) i (f i)
def qi (f:Hp):List Nat->Hp
 |[]=>fun _=>none
 |i::l=>up (qi f l) i (f i)
theorem qj (f:Nat->AV):∀(l:List Nat) (t:Nat),lP f l t=f t∨lP f l t= .dead
 |[],_=> .inr rfl
 |i::l,t=>by
  simp only [lP];by_cases h:t=i
  ·subst h;rw [bO];exact .inl rfl
  rw [cv _ _ h];exact qj f l t
theorem wh (f:Hp):∀(l:List Nat) (nm:Nat) (B:Blk),qi f l nm=some B->f nm=some B
 |[],_,_,h=>by cases h
 |i::l,nm,B,h=>by
  simp only [qi] at h;by_cases hi:nm=i
  ·subst hi;rw [bO] at h;exact h
  rw [cv _ _ hi] at h;exact wh f l nm B h
def ik (H0 f:Hp):List Nat->Hp
 |[]=>H0
 |i::l=>up (ik H0 f l) i (f i)
theorem BX (H0 f:Hp):∀(l:List Nat),(∀x B,H0 x=some B->fM l x=true∨f x=some B)->∀(nm:Nat) (B:Blk),ik H0 f l nm=some B->f nm=some B
 |[],h,nm,B,hk=>(h nm B hk).resolve_left (by simp [fM])
 |i::l,h,nm,B,hk=>by
  simp only [ik] at hk;by_cases hi:nm=i
  ·subst hi;rw [bO] at hk;exact hk
  rw [cv _ _ hi] at hk;have key:∀(l':List Nat),ik H0 f l' nm=some B->fM l' nm=true->f nm=some B:=by
   intro l';induction l' with
   |nil=>intro _ h;simp [fM] at h
   |cons j l' ih=>
    intro h1 h2;simp only [ik] at h1;by_cases hj:nm=j
    ·subst hj;rw [bO] at h1;exact h1
    rw [cv _ _ hj] at h1;simp only [fM,Bool.or_eq_true,beq_iff_eq] at h2;exact ih h1 (h2.resolve_left (fun e=>hj e.symm))
  have key2:∀(l':List Nat),ik H0 f l' nm=some B->fM l' nm=false->H0 nm=some B:=by
   intro l';induction l' with
   |nil=>intro h _;exact h
   |cons j l' ih=>
    intro h1 h2;simp only [ik] at h1;simp only [fM,Bool.or_eq_false_iff,beq_eq_false_iff_ne,ne_eq] at h2;rw [cv _ _ (fun e=>h2.1 e.symm)] at h1;exact ih h1 h2.2
  cases hh:fM l nm with
  |true=>exact key l hk hh
  |false=>
   have h3:=key2 l hk hh;refine (h nm B h3).resolve_left ?_;simp only [fM,hh,Bool.or_false];simp only [beq_iff_eq];exact fun e=>hi e.symm
def Wk (e:En) (k0:Kx) (N:Nat) (st st2:St):Prop:=∀a w,Rel e k0 N st a w->Rel e k0 N st2 a w
section
variable {P : Program} {e : En} {k0 : Kx} {N : Nat} {st st2 st3 : St} {Q : Exit → St → Prop}
theorem Wk.refl (st:St):Wk e k0 N st st:=fun _ _ h=>h
theorem Wk.trans (h:Wk e k0 N st st2) (k:Wk e k0 N st2 st3):Wk e k0 N st st3:=fun a w hr=>k a w (h a w hr)
theorem aC (l m:List Nat):Wk e k0 N st ⟨lP st.tm l,qi st.H m,st.nx,st.nb⟩:=fun a w hr=>ij _ _ (qj _ l) (wh _ m) hr
theorem dq (H0:Hp) (l m:List Nat) (h:∀x B,H0 x=some B->fM m x=true∨st.H x=some B):Wk e k0 N st ⟨lP st.tm l,ik H0 st.H m,st.nx,st.nb⟩:=fun a w hr=>ij _ _ (qj _ l) (BX _ _ m h) hr
theorem eE {c:Code} (H0:Hp) (l m:List Nat) (h:∀x B,H0 x=some B->fM m x=true∨st.H x=some B) (h2:Awp P e k0 N c Q ⟨lP st.tm l,ik H0 st.H m,st.nx,st.nb⟩):Awp P e k0 N c Q st:=li _ (dq H0 l m h) h2
theorem ch {c:Code} (h:Wk e k0 N st st2) (h2:Awp P e k0 N c Q st2):Awp P e k0 N c Q st:=li st2 h h2
theorem aS {c:Code} (l m:List Nat) (h2:Awp P e k0 N c Q ⟨lP st.tm l,qi st.H m,st.nx,st.nb⟩):Awp P e k0 N c Q st:=li _ (aC l m) h2
theorem iB {c:Code} (t d:Nat) (E:TypeId) (sz:Nat) (hsz:sz≠0) (htm:st.tm t= .val (.one (.lit (.slice none 0 0)))) (h:Awp P e k0 N c Q ⟨up st.tm t (.val (.one (.own d st.nx 0 sz))),up st.H d (some ⟨st.nx,E,sz,0,[]⟩),st.nx+1,st.nb⟩):Awp P e k0 N c Q st:=
 li _ (fun _ _ hr=>FQ E sz hsz htm hr) h
theorem fK {c:Code} (nm off d:Nat) (B:Blk) (E:TypeId) (sz:Nat) (hsz':sz≠0) (hB:st.H nm=some B) (hne:nm≠d) (hsz:B.sz≠0) (hc:B.cs[off]? =some (.lit (.slice none 0 0)))
  (h:Awp P e k0 N c Q ⟨st.tm,up (up st.H d (some ⟨st.nx,E,sz,0,[]⟩)) nm (some {B with cs:=B.cs.set off (.own d st.nx 0 sz)}),st.nx+1,st.nb⟩):Awp P e k0 N c Q st:=
 li _ (fun _ _ hr=>jB E sz hsz' hB hne hsz hc hr) h
theorem ff {c:Code} {t nm s n sz:Nat} {B:Blk} (htm:st.tm t= .val (.one (.own nm s n sz))) (hB:st.H nm=some B) (hsz:sz≠0) (hs:B.st=s) (h:Awp P e k0 N c Q ⟨up st.tm t (.val (.one (.sh sz n B.cs))),up st.H nm none,st.nx,st.nb⟩):Awp P e k0 N c Q st:=
 li _ (fun _ _ hr=>wg hB hsz hs htm hr) h
theorem aM {c:Code} (I:Nat->St->Prop) (n0:Nat) (h0:I n0 st) (round:∀n st,I n st->Awp P e k0 N c (kl (fun st'=>∃st2,Wk e k0 N st' st2/\∃m,m<n/\I m st2) Q) st):Awp P e k0 N (.loop c) Q st:=by
 refine DL (fun n st=>∃st2,Wk e k0 N st st2/\I n st2) n0 ⟨st,Wk.refl st,h0⟩ fun n st ⟨st2,hw,hI⟩=>?_
 refine ch hw (qe (round n st2 hI) fun ex st' hq=>?_);cases ex with
 |normal=>
  obtain ⟨st3,h1,m,h2,h3⟩:=hq;exact ⟨m,h2,st3,h1,h3⟩
 |_=>exact hq
end
def mkT:List (Nat×AV)->Nat->AV
 |[]=>fun _=> .dead
 |x::l=>up (mkT l) x.1 x.2
def bC (H0:Hp):List (Nat×Blk)->Hp
 |[]=>H0
 |x::l=>up (bC H0 l) x.1 (some x.2)
def mkH:List (Nat×Blk)->Hp
 |[]=>fun _=>none
 |x::l=>up (mkH l) x.1 (some x.2)
theorem Al (n:Int):inK .i64 n↔ -9223372036854775808<=n/\n<=9223372036854775807:=by
 have h1:IntKind.i64.min= -9223372036854775808:=by decide
 have h2:IntKind.i64.max=9223372036854775807:=by decide
 unfold inK;rw [h1,h2]
theorem BY (z:List C):dO 0 z=[]:=rfl
theorem lj (n:Nat) (z:List C):dO (n+1) z=z++dO n z:=by simp [dO,List.replicate_succ]
theorem uw (cs:List C) (off:Nat):spl cs off []=cs:=by simp [spl]
theorem nH (c d:C) (cs ds:List C):spl (c::cs) 0 (d::ds)=d::spl cs 0 ds:=by simp [spl]
theorem qk (c:C) (cs ds:List C) (n:Nat):spl (c::cs) (n+1) ds=c::spl cs n ds:=by
 simp only [spl,List.take_succ_cons,List.cons_append];rw [show n+1+ds.length=(n+ds.length)+1 by omega,List.drop_succ_cons]
def SS:=And.intro @yC (And.intro @yD (And.intro @yE (And.intro @yF (And.intro @DN (And.intro @DO (And.intro @FG.eq_def (And.intro @Aa.eq_def (And.intro @mQ.eq_def (And.intro @mO.eq_def (And.intro @mP.eq_def (And.intro @gd.eq_def (And.intro @gL.eq_def (And.intro @eff.eq_def (And.intro @ev.eq_def (And.intro @yo.eq_def (And.intro @cellsOf.eq_def (And.intro @A1.cells.eq_def (And.intro @fJ.eq_def (And.intro @vP.eq_def (And.intro @mM.eq_def (And.intro @k8.eq_def (And.intro @lc.eq_def (And.intro @If.eq_def (And.intro @bnd.eq_def (And.intro @cut.eq_def (And.intro @FH.eq_def (And.intro @ki.eq_1 (And.intro @ki.eq_2 (And.intro @mR.eq_def (And.intro @iQ.eq_1 (And.intro @iQ.eq_2 (And.intro @gk.eq_def (And.intro @al.eq_1 (And.intro @al.eq_2 (And.intro @aw.eq_1 (And.intro @aw.eq_2 (And.intro @aw.eq_3 (And.intro @aw.eq_4 (And.intro @pT.eq_def (And.intro @a8.eq_def (And.intro @aK.eq_def (And.intro @oK.eq_def (And.intro @yx.eq_def (And.intro @yw.eq_1 (And.intro @yw.eq_2 (And.intro @BI.eq_def (And.intro @FI.eq_def (And.intro @fY.eq_def (And.intro @ini.eq_def (And.intro @ur.eq_1 (And.intro @ur.eq_2 (And.intro @FF.eq_def (And.intro @oH.eq_1 (And.intro @oH.eq_2 (And.intro @jv.eq_def (And.intro @fH.eq_1 (And.intro @fH.eq_2 (And.intro @lP.eq_1 (And.intro @lP.eq_2 (And.intro @qi.eq_1 (And.intro @qi.eq_2 (And.intro @Ab.eq_def (And.intro @mkT.eq_1 (And.intro @mkT.eq_2 (And.intro @mkH.eq_1 (And.intro @mkH.eq_2 (And.intro @Al (And.intro @BY (And.intro @lj (And.intro @uw (And.intro @nH (And.intro @qk (And.intro @Il (And.intro @FO (And.intro @Im (And.intro @FP (And.intro @Io (And.intro @JO (And.intro @JP (And.intro @JQ (And.intro @JR (And.intro @JS (And.intro @JT (And.intro @BP (And.intro @BQ (And.intro @BR (And.intro @SchO.mk.eq_1 (And.intro @SchO.mk.eq_2 (And.intro @SchO.mk.eq_3 (And.intro @ik.eq_1 (And.intro @ik.eq_2 (And.intro @bC.eq_1 (And.intro @bC.eq_2 (And.intro @yB (And.intro @FN (And.intro @yv.eq_def (And.intro @yu.eq_1 (And.intro @yu.eq_2 (And.intro @lh.eq_def (And.intro @BG.eq_def (And.intro @Dx.eq_def (And.intro @z8.eq_def (And.intro @uo.eq_def (And.intro @fM.eq_1 (And.intro @fM.eq_2 (And.intro @Iq (And.intro @Ir (And.intro @BT (And.intro @BU (And.intro @Ii.eq_def (And.intro @p8.eq_1 (And.intro @p8.eq_2 (And.intro @BS (And.intro @Is (And.intro @It (And.intro @Ip (And.intro @Iu (And.intro @Iv (And.intro @Iw (And.intro @Ix (And.intro @ap (And.intro @uv (And.intro @yz (And.intro @BO (And.intro @rX (And.intro @yA (And.intro @v7 (And.intro @v8 (And.intro @DM (And.intro @Option.bind_some.{0,0} (And.intro @Option.bind_none.{0,0} (And.intro @Option.map_some.{0,0} (And.intro @Option.map_none.{0,0} (And.intro @List.toList_toArray.{0} (And.intro @List.map_cons.{0,0} (And.intro @List.map_nil.{0,0} (And.intro @List.drop_succ_cons.{0} (And.intro @List.drop_zero.{0} (And.intro @List.take_succ_cons.{0} (And.intro @List.take_zero.{0} (And.intro @List.length_cons.{0} (And.intro @List.length_nil.{0} (And.intro @List.getElem?_cons_zero.{0} (And.intro @List.getElem?_cons_succ.{0} (And.intro @List.getElem?_toArray.{0} (And.intro @true_and (And.intro @and_true (And.intro @Bool.or_false (And.intro @Bool.false_or (And.intro @Bool.and_true (And.intro @decide_true (And.intro @decide_false (And.intro @not_true_eq_false (And.intro @not_false_eq_true (And.intro @Nat.zero_add (And.intro @true_or (And.intro @or_true (And.intro @exists_eq_left'.{1} (And.intro @Option.some.injEq.{0} (And.intro @Bool.true_and (And.intro @Bool.false_and (And.intro @Bool.and_self (And.intro @Bool.not_true (And.intro @Bool.not_false (And.intro @List.all_cons.{0} (And.intro @List.all_nil.{0} (And.intro @List.set_cons_zero.{0} (And.intro @List.set_cons_succ.{0} (And.intro @if_true.{1} (And.intro @if_false.{1} (And.intro @Nat.add_zero (And.intro @Nat.zero_mul (And.intro @Nat.mul_one (And.intro @Nat.one_mul (And.intro @List.nil_append.{0} (And.intro @List.cons_append.{0} (And.intro @List.append_nil.{0} (@Int.toNat_natCast))))))))))))))))))))))))))))))))))))))))))))))))))))))))))))))))))))))))))))))))))))))))))))))))))))))))))))))))))))))))))))))))))))))))))))))))))))))))))))))))))))))))))))))))))
def ar {α:Type} (f:α->List C) (l:List α):List C:=(l.map f).flatten
theorem d6 {α:Type} (f:α->List C):ar f []=[]:=rfl
theorem bh {α:Type} (f:α->List C) (a:α) (l:List α):ar f (a::l)=f a++ar f l:=by simp [ar]
theorem bY {α:Type} (f:α->List C) (l m:List α):ar f (l++m)=ar f l++ar f m:=by simp [ar]
theorem aG {α:Type} (f:α->List C) (l:List α) (a:α):ar f (l++[a])=ar f l++f a:=by simp [ar]
theorem be {α:Type} {f:α->List C} {sz:Nat} (hf:∀a,(f a).length=sz):∀l:List α,(ar f l).length=l.length*sz
 |[]=>by simp [ar]
 |a::l=>by rw [bh,List.length_append,hf,be hf l,List.length_cons,Nat.succ_mul,Nat.add_comm]
theorem sS {α:Type} {f:α->List C} {sz:Nat} (hf:∀a,(f a).length=sz):∀(l:List α) (k:Nat),(ar f l).drop (k*sz)=ar f (l.drop k)
 |l,0=>by simp
 |[],k+1=>by simp [ar]
 |a::l,k+1=>by
  rw [bh,Nat.succ_mul,Nat.add_comm,←List.drop_drop,List.drop_left' (hf a),sS hf l k,List.drop_succ_cons]
theorem aO {α:Type} {f:α->List C} {sz:Nat} (hf:∀a,(f a).length=sz) (l:List α) (k:Nat) (h:k<l.length):(ar f l).drop (k*sz)=f l[k]++ar f (l.drop (k+1)):=by
 rw [sS hf,List.drop_eq_getElem_cons h,bh]
theorem BZ {α:Type} {f:α->List C} {sz:Nat} (hf:∀a,(f a).length=sz) (l:List α) (k:Nat):(ar f l).take (k*sz)=ar f (l.take k):=by
 rcases Nat.lt_or_ge k l.length with h|h
 ·have h1:ar f l=ar f (l.take k)++ar f (l.drop k):=by rw [←bY,List.take_append_drop]
  rw [h1,List.take_left'];rw [be hf,List.length_take,Nat.min_eq_left (by omega)]
 rw [List.take_of_length_le h,List.take_of_length_le];rw [be hf];exact Nat.mul_le_mul_right _ h
theorem cw (a b:List C):al (a++b)=(al a&&al b):=by
 induction a with
 |nil=>simp [al]
 |cons c a ih=>simp [al,ih,Bool.and_assoc]
theorem ab {α:Type} {f:α->List C} (hf:∀a,al (f a)=true):∀l:List α,al (ar f l)=true
 |[]=>rfl
 |a::l=>by rw [bh,cw,hf,ab hf l];rfl
theorem mS {α:Type} (a b c d:List α) (h:b.length=d.length):spl (a++(b++c)) a.length d=a++(d++c):=by
 simp [spl,←h,List.drop_append]
section
variable {P : Program} {e : En} {k0 : Kx} {N : Nat} {st : St} {Q : Exit → St → Prop} {ops : Array Oper}
def nI (zP:Program) (ze:En) (zk:Kx) (zN:Nat):Nat->Code->(Exit->St->Prop)->Code×(Exit->St->Prop)
 |n+1,.seq x y,zQ=>nI zP ze zk zN n x (kl (Awp zP ze zk zN y zQ) zQ)
 |n+1,.block i c,zQ=>nI zP ze zk zN n c (ma i zQ)
 |_,c,zQ=>(c,zQ)
theorem FR (n:Nat):∀(c:Code) (Q:Exit->St->Prop),Awp P e k0 N (nI P e k0 N n c Q).1 (nI P e k0 N n c Q).2 st->Awp P e k0 N c Q st:=by
 induction n with
 |zero=>intro c Q h;cases c<;>exact h
 |succ n ih=>
  intro c Q h;cases c with
  |seq x y=>exact ut (ih _ _ h)
  |block i c=>exact sQ (ih _ _ h)
  |_=>exact h
theorem awL {c x:Code} {Q':Exit->St->Prop} (hc:nI P e k0 N 99 c Q=(x,Q')) (h:Awp P e k0 N x Q' st):Awp P e k0 N c Q st:=FR 99 c Q (by rw [hc];exact h)
def gz1 (n:Nat):Option (Nat×Bool):=if n=0 then none else some (n/2-1,n%2==1)
def gz:List Nat->List (Option (Nat×Bool))
 |[]=>[]
 |n::l=>gz1 n::gz l
theorem awR (I:List Nat) {id:Nat} {l:List Oper} {c:Code} {Q':Exit->St->Prop} (cd:List Nat) {gs:List (Option (Nat×Bool))} (h:AL P N I (Q' .normal) l gs st) (hgs:gz cd=gs:=by simp only [gz.eq_1,gz.eq_2,gz1.eq_1,seval,reduceIte];rfl) (hc:nI P e k0 N 99 c Q=(.region id ops false,Q'):=by rfl) (hl:ops.toList=l:=by rfl) (hg:dH ops=gs:=by kernel_rfl) (hN:decide (N<1000000)=true:=by decide):Awp P e k0 N c Q st:=awL hc (qd I hl hg hN h)
theorem awT {c:Operand} {b x y:Code} {Q':Exit->St->Prop} (h:Awp P e k0 N x Q' st) (hb:nI P e k0 N 99 b Q=(.cond c x y,Q'):=by rfl) (hc:ev st c= .val (.one (.lit (.bool true))):=by rfl):Awp P e k0 N b Q st:=awL hb (v6 true hc (fun _=>h) (fun h=>by cases h))
theorem awF {c:Operand} {b x y:Code} {Q':Exit->St->Prop} (h:Awp P e k0 N y Q' st) (hb:nI P e k0 N 99 b Q=(.cond c x y,Q'):=by rfl) (hc:ev st c= .val (.one (.lit (.bool false))):=by rfl):Awp P e k0 N b Q st:=awL hb (v6 false hc (fun h=>by cases h) (fun _=>h))
theorem awK {c:Code} {Q':Exit->St->Prop} (h:Q' .normal st) (hb:nI P e k0 N 99 c Q=(.skip,Q'):=by rfl):Awp P e k0 N c Q st:=awL hb (DJ h)
theorem awX {c:Code} {Q':Exit->St->Prop} (h:Q' .ret st) (hb:nI P e k0 N 99 c Q=(.ret,Q'):=by rfl):Awp P e k0 N c Q st:=awL hb (FM h)
theorem awQ {c:Code} {i:Nat} {Q':Exit->St->Prop} (h:Q' (.exit i) st) (hb:nI P e k0 N 99 c Q=(.exit i,Q'):=by rfl):Awp P e k0 N c Q st:=awL hb (DK h)
theorem ob {p q:Prop} (hq:q) (hp:p:=by first|omega|(simp only [List.length_cons];omega)|exact ⟨⟨by omega,by omega⟩,rfl⟩|rfl):p/\q:=⟨hp,hq⟩
def scq:List Nat->Sch->Sch
 |[],s=>s
 |n::l,s=> .cons (n/2) (n%2==1) (scq l s)
def ALn (P:Program) (N:Nat) (Q:St->Prop):List Oper->St->Prop
 |[],st=>Q st
 |o::os,st=>gL P N [] st o (ALn P N Q os)
theorem FS {Q:St->Prop}:ALn P N Q [] st=Q st:=rfl
theorem wi {Q:St->Prop} {o:Oper} {os:List Oper}:ALn P N Q (o::os) st=gL P N [] st o (ALn P N Q os):=rfl
theorem DQ {Q:St->Prop}:∀l:List Oper,ALn P N Q l=AL P N [] Q l (l.map fun _=>none)
 |[]=>by funext st;rfl
 |o::os=>by
  funext st;rw [wi,DQ os];rfl
theorem Am {α β:Type}:∀(xs:List (Option β)) (l:List α),xs.all Option.isNone=true->l.length=xs.length->xs=l.map fun _=>(none:Option β)
 |[],[],_,_=>rfl
 |x::xs,a::l,h,hl=>by
  simp only [List.all_cons,Bool.and_eq_true,Option.isNone_iff_eq_none] at h;obtain ⟨rfl,h2⟩:=h;have e:=Am xs l h2 (by simpa using hl);rw [List.map_cons];exact congrArg _ e
 |[],_::_,_,hl=>by simp at hl
 |_::_,[],_,hl=>by simp at hl
theorem awN {id:Nat} {l:List Oper} {c:Code} {Q':Exit->St->Prop} (h:ALn P N (Q' .normal) l st) (hc:nI P e k0 N 99 c Q=(.region id ops false,Q'):=by rfl) (hl:ops.toList=l:=by rfl) (hg:(dH ops).all Option.isNone=true:=by kernel_rfl) (hN:decide (N<1000000)=true:=by decide):Awp P e k0 N c Q st:=
 awL hc (qd [] hl (Am (dH ops) l hg (by rw [←hl];simp [dH])) hN (by rw [←DQ];exact h))
def scT:Nat->Nat->Sch->Sch
 |_,0,s=>s
 |i,n+1,s=> .cons i true (scT (i+1) n s)
def zS:=And.intro (And.intro @FS @wi) (And.intro SS @ne_eq.{1})
theorem zT:type_of%zS:=zS
theorem awD (s:Sch) (cd:List Nat) {gs:List (Option (Nat×Bool))} {id:Nat} {r:SchO} {c:Code} {Q':Exit->St->Prop} (h:AT P N (Q' .normal) r st) (hgs:gz cd=gs:=by simp only [gz.eq_1,gz.eq_2,gz1.eq_1,seval,reduceIte];rfl) (hc:nI P e k0 N 99 c Q=(.region id ops true,Q'):=by rfl) (hm:P.follows .mixedOrders=true:=by kernel_rfl)
 (hB:(Region.noSelect ops&&decide (s.len=ops.size)&&fX .any ops (l9 ops) s (Array.replicate ops.size false))=true:=by kernel_rfl) (hg:dH ops=gs:=by kernel_rfl) (hr:SchO.mk ops gs s=some r:=by simp only [scq.eq_1,scq.eq_2,scT.eq_1,scT.eq_2,(id zS),seval];rfl) (hN:decide (N<1000000)=true:=by decide):Awp P e k0 N c Q st:=awL hc (BL hm s hB hg hr hN h)
theorem awS {zP:Program} {ze:En} {zk:Kx} {zN:Nat} {zs:St} {zQ:Exit->St->Prop} {zx zy:Code} (zh:Awp zP ze zk zN zx (kl (Awp zP ze zk zN zy zQ) zQ) zs):Awp zP ze zk zN (.seq zx zy) zQ zs:=ut zh
theorem awB {zP:Program} {ze:En} {zk:Kx} {zN:Nat} {zs:St} {zQ:Exit->St->Prop} {zi:Nat} {zc:Code} (zh:Awp zP ze zk zN zc (ma zi zQ) zs):Awp zP ze zk zN (.block zi zc) zQ zs:=sQ zh
end
theorem tf0:elT prog 47=some (46,5,56):=by kernel_rfl
theorem tf1:arT prog 48=none:=by kernel_rfl
theorem tf2:elT prog 48=some (47,1,24):=by kernel_rfl
theorem tf3:ldT prog 47=some (false,1):=by kernel_rfl
theorem tf4:(prog).underlying 3=some (.int .i64):=by kernel_rfl
theorem tf5:zrT prog 46=some [.int .i64 0,.bool false,.bool false,.string aA,.string aA]:=by kernel_rfl
theorem tf6:arT prog 47=none:=by kernel_rfl
theorem tf7:elT prog 58=some (3,1,8):=by kernel_rfl
theorem tf8:foT prog 50 0=some (0,48):=by kernel_rfl
theorem tf9:foT prog 46 0=some (0,3):=by kernel_rfl
theorem yG:ldT prog 48=some (false,1):=by kernel_rfl
theorem yH:ldT prog 46=some (true,5):=by kernel_rfl
theorem jc:ldT prog 3=some (false,1):=by kernel_rfl
theorem KZ:zrT prog 3=some [.int .i64 0]:=by kernel_rfl
theorem Iy:arT prog 133=none:=by kernel_rfl
theorem Iz:elT prog 133=some (4,1,1):=by kernel_rfl
theorem DR:foT prog 46 1=some (1,4):=by kernel_rfl
theorem DS:foT prog 46 2=some (2,32):=by kernel_rfl
theorem cG:ldT prog 32=some (true,3):=by kernel_rfl
theorem rY:ldT prog 4=some (false,1):=by kernel_rfl
theorem B6:arT prog 34=none:=by kernel_rfl
theorem wj:arT prog 33=none:=by kernel_rfl
theorem FT:arT prog 58=none:=by kernel_rfl
theorem ql:elT prog 34=some (50,1,24):=by kernel_rfl
theorem mc:elT prog 33=some (38,5,56):=by kernel_rfl
theorem IA:foT prog 38 0=some (0,3):=by kernel_rfl
theorem FU:foT prog 38 1=some (1,3):=by kernel_rfl
theorem yI:foT prog 38 2=some (2,32):=by kernel_rfl
theorem IB:foT prog 36 0=some (0,32):=by kernel_rfl
theorem nJ:foT prog 36 1=some (3,33):=by kernel_rfl
theorem qm:foT prog 36 2=some (4,34):=by kernel_rfl
theorem qn:ldT prog 34=some (false,1):=by kernel_rfl
theorem nK:ldT prog 33=some (false,1):=by kernel_rfl
theorem wk:ldT prog 50=some (true,1):=by kernel_rfl
theorem DT:ldT prog 38=some (true,5):=by kernel_rfl
theorem yJ:zrT prog 50=some [.slice none 0 0]:=by kernel_rfl
theorem wl:zrT prog 38=some [.int .i64 0,.int .i64 0,.bool false,.string aA,.string aA]:=by kernel_rfl
theorem JU:zrT prog 4=some [.bool false]:=by kernel_rfl
theorem il:ldT prog 36=some (true,5):=by kernel_rfl
theorem K0:arT prog 26=none:=by kernel_rfl
theorem JV:arT prog 40=none:=by kernel_rfl
theorem IC:elT prog 26=some (42,4,64):=by kernel_rfl
theorem JW:elT prog 40=some (44,2,16):=by kernel_rfl
theorem JX:foT prog 42 1=some (3,40):=by kernel_rfl
theorem ID:foT prog 28 1=some (1,26):=by kernel_rfl
theorem K1:foT prog 44 0=some (0,3):=by kernel_rfl
theorem K3:foT prog 44 1=some (1,3):=by kernel_rfl
theorem IE:ldT prog 26=some (false,1):=by kernel_rfl
theorem JY:ldT prog 40=some (false,1):=by kernel_rfl
theorem JZ:ldT prog 42=some (true,4):=by kernel_rfl
theorem J0:ldT prog 44=some (true,2):=by kernel_rfl
theorem J1:zrT prog 42=some [.bool false,.string aA,.string aA,.slice none 0 0]:=by kernel_rfl
theorem J2:zrT prog 44=some [.int .i64 0,.int .i64 0]:=by kernel_rfl
theorem IF:arT prog 98=some (3,57,1):=by kernel_rfl
theorem IG:ldT prog 57=some (false,1):=by kernel_rfl
theorem IH:elT prog 98=none:=by kernel_rfl
theorem II:plT prog 50=some [(0,1)]:=by kernel_rfl
theorem J3:plT prog 46=some [(0,1),(1,1),(2,3)]:=by kernel_rfl
theorem IJ:(prog).underlying 57=some (.int .u16):=by kernel_rfl
theorem J4:(prog).underlying 115=some (.int .u64):=by kernel_rfl
theorem J5:zrT prog 47=some [.slice none 0 0]:=by kernel_rfl
theorem IK:arT prog 25=none:=by kernel_rfl
theorem IL:elT prog 25=some (36,5,88):=by kernel_rfl
theorem IM:foT prog 28 0=some (0,25):=by kernel_rfl
theorem IN:ldT prog 25=some (false,1):=by kernel_rfl
theorem J6:ldT prog 28=some (true,2):=by kernel_rfl
theorem K4:plT prog 42=some [(0,3),(3,1)]:=by kernel_rfl
theorem K5:plT prog 44=some [(0,1),(1,1)]:=by kernel_rfl
theorem K6:arT prog 97=some (4,57,1):=by kernel_rfl
theorem K7:arT prog 23=none:=by kernel_rfl
theorem K8:arT prog 22=none:=by kernel_rfl
theorem K9:arT prog 56=none:=by kernel_rfl
theorem La:elT prog 23=some (98,3,6):=by kernel_rfl
theorem Lb:elT prog 22=some (97,4,8):=by kernel_rfl
theorem J7:elT prog 56=some (57,1,2):=by kernel_rfl
theorem Lc:ldT prog 98=some (true,3):=by kernel_rfl
theorem Ld:ldT prog 97=some (true,4):=by kernel_rfl
theorem Le:elT prog 97=none:=by kernel_rfl
theorem Q9:plT prog 38=some [(0,1),(1,1),(2,3)]:=by kernel_rfl
theorem IP:plT prog 36=some [(0,3),(3,1),(4,1)]:=by kernel_rfl
theorem Lf:plT prog 28=some [(0,1),(1,1)]:=by kernel_rfl
theorem Lg:(prog).underlying 5=some (.int .u8):=by kernel_rfl
theorem Lh:zrT prog 98=some [.int .u16 (0),.int .u16 (0),.int .u16 (0)]:=by kernel_rfl
theorem Li:zrT prog 97=some [.int .u16 (0),.int .u16 (0),.int .u16 (0),.int .u16 (0)]:=by kernel_rfl
theorem DU:zrT prog 36=some [.bool false,.string aA,.string aA,.slice none 0 0,.slice none 0 0]:=by kernel_rfl
theorem Lj:zrT prog 28=some [.slice none 0 0,.slice none 0 0]:=by kernel_rfl
theorem iy:plT prog 32=some [(0,1),(1,1),(2,1)]:=by kernel_rfl
theorem d7:zrT prog 32=some [.bool false,.string aA,.string aA]:=by kernel_rfl
theorem Lk:foT prog 32 0=some (0,4):=by kernel_rfl
theorem IQ:foT prog 32 1=some (1,9):=by kernel_rfl
theorem IR:ldT prog 9=some (false,1):=by kernel_rfl
theorem J8:(prog).underlying 4=some .bool:=by kernel_rfl
theorem IS:elT prog 188=some (230,4,48):=by kernel_rfl
theorem IT:foT prog 190 0=some (0,188):=by kernel_rfl
theorem FV:foT prog 190 1=some (1,32):=by kernel_rfl
theorem IU:ldT prog 188=some (false,1):=by kernel_rfl
theorem Ll:plT prog 230=some [(0,1),(1,3)]:=by kernel_rfl
theorem IV:zrT prog 230=some [.int .i64 0,.bool false,.string aA,.string aA]:=by kernel_rfl
theorem qo:arT prog 79=none:=by kernel_rfl
theorem me:elT prog 79=some (32,3,40):=by kernel_rfl
theorem sT:foT prog 200 0=some (0,79):=by kernel_rfl
theorem DV:foT prog 200 1=some (1,32):=by kernel_rfl
theorem jW:ldT prog 79=some (false,1):=by kernel_rfl
theorem wq:arT prog 138=none:=by kernel_rfl
theorem sU:elT prog 138=some (190,4,64):=by kernel_rfl
theorem An:ldT prog 190=some (true,4):=by kernel_rfl
theorem Ao:zrT prog 190=some [.slice none 0 0,.bool false,.string aA,.string aA]:=by kernel_rfl
theorem G3:arT prog 188=none:=by kernel_rfl
theorem G4:foT prog 230 0=some (0,3):=by kernel_rfl
theorem G5:foT prog 230 1=some (1,32):=by kernel_rfl
theorem G6:ldT prog 230=some (true,4):=by kernel_rfl
theorem DW:foT prog 193 0=some (0,58):=by kernel_rfl
theorem DX:ldT prog 58=some (false,1):=by kernel_rfl
theorem Ap:foT prog 193 1=some (1,138):=by kernel_rfl
theorem qp:ldT prog 138=some (false,1):=by kernel_rfl
theorem ws:ldT prog 193=some (true,2):=by kernel_rfl
theorem J9:plT prog 193=some [(0,1),(1,1)]:=by kernel_rfl
theorem sV:zrT prog 193=some [.slice none 0 0,.slice none 0 0]:=by kernel_rfl
theorem wt:elT prog 139=some (193,2,48):=by kernel_rfl
theorem Aq:foT prog 141 1=some (1,138):=by kernel_rfl
theorem wu:foT prog 141 2=some (2,139):=by kernel_rfl
theorem G7:foT prog 141 3=some (3,32):=by kernel_rfl
theorem wv:ldT prog 139=some (false,1):=by kernel_rfl
theorem wy:ldT prog 141=some (true,6):=by kernel_rfl
theorem Ka:plT prog 141=some [(0,1),(1,1),(2,1),(3,3)]:=by kernel_rfl
theorem Kb:zrT prog 141=some [.int .i64 0,.slice none 0 0,.slice none 0 0,.bool false,.string aA,.string aA]:=by kernel_rfl
theorem G8:arT prog 280=none:=by kernel_rfl
theorem Ar:elT prog 280=some (283,4,48):=by kernel_rfl
theorem G9:foT prog 283 1=some (1,32):=by kernel_rfl
theorem DY:elT prog 244=some (280,1,24):=by kernel_rfl
theorem Hc:plT prog 283=some [(0,1),(1,3)]:=by kernel_rfl
theorem Hf:zrT prog 280=some [.slice none 0 0]:=by kernel_rfl
theorem Hg:zrT prog 283=some [.int .i64 0,.bool false,.string aA,.string aA]:=by kernel_rfl
theorem DZ:foT prog 214 4=some (8,32):=by kernel_rfl
theorem D3:foT prog 214 5=some (11,4):=by kernel_rfl
theorem As:foT prog 214 0=some (0,79):=by kernel_rfl
theorem At:foT prog 214 1=some (1,79):=by kernel_rfl
theorem Hh:foT prog 214 2=some (2,32):=by kernel_rfl
theorem D4:foT prog 214 3=some (5,32):=by kernel_rfl
theorem Kc:arT prog 244=none:=by kernel_rfl
theorem Kd:foT prog 283 0=some (0,3):=by kernel_rfl
theorem Ke:ldT prog 280=some (false,1):=by kernel_rfl
theorem Kf:plT prog 214=some [(0,1),(1,1),(2,3),(5,3),(8,3),(11,1)]:=by kernel_rfl
theorem Kg:zrT prog 214=some [.slice none 0 0,.slice none 0 0,.bool false,.string aA,.string aA,.bool false,.string aA,.string aA,.bool false,.string aA,.string aA,.bool false]:=by kernel_rfl
theorem Hi:foT prog 141 0=some (0,3):=by kernel_rfl
theorem D5:plT prog 200=some [(0,1),(1,3)]:=by kernel_rfl
theorem D6:zrT prog 200=some [.slice none 0 0,.bool false,.string aA,.string aA]:=by kernel_rfl
theorem Au:arT prog 139=none:=by kernel_rfl
theorem Kh:zrT prog 57=some [.int .u16 (0)]:=by kernel_rfl
end Go.Proofs.YtokmkopihhnggaaGreatDoor
