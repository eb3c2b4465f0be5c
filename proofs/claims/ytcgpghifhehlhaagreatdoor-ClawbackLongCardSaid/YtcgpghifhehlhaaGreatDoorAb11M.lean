/- The abstract machine: contracts that were proved over the model, taken over. -/
import Derived.Test.YtcgpghifhehlhaaGreatDoorLftM
import Derived.Test.YtcgpghifhehlhaaGreatDoorVal1M
import Derived.Test.YtcgpghifhehlhaaGreatDoorProg
import Derived.Test.YtcgpghifhehlhaaGreatDoorAb7M
set_option linter.unusedVariables false
set_option linter.unusedSimpArgs false
set_option linter.defProp false
set_option linter.unusedSectionVars false
namespace Go.Proofs.YtcgpghifhehlhaaGreatDoor
open Go Go.RowKit Go.Proofs.Tryz
def cS (r:GRat):List C:=[.lit (.bool r.neg),.lit (.string r.num),.lit (.string r.den)]
theorem rR (r:GRat) (h1:r.num.size<=500000000000) (h2:r.den.size<=500000000000):ch prog 73 [.agg (cS r)] (one (.int .i64 (aL (qOf r)))):=
 eE (iv func73 (by decide) (by kernel_rfl)) [aN r] (.int .i64 (aL (qOf r))) fun w=>K1 r w h1 h2
theorem CR (r1 r2:GRat) (m n:Nat) (h1:sB m r1) (h2:sB n r2) (hm:m<=100000000000) (hn:n<=100000000000) (hm0:0<m) (hn0:0<n):
  ch prog 84 [.agg (cS r1),.agg (cS r2)] (one (.int .i64 (fV (qOf r1) (qOf r2)))):=
 eE (iv func84 (by decide) (by kernel_rfl)) [aN r1,aN r2] (.int .i64 (fV (qOf r1) (qOf r2))) fun w=>nH r1 r2 m n w h1 h2 hm hn hm0 hn0
def iR (f:Nat->AV):List Nat->Nat->AV
 |[]=>fun _=> .dead
 |i::l=>up (iR f l) i (f i)
def lA (f:Hp):List Nat->Hp
 |[]=>fun _=>none
 |i::l=>up (lA f l) i (f i)
theorem lB (f:Nat->AV):∀(l:List Nat) (t:Nat),iR f l t=f t∨iR f l t= .dead
 |[],_=> .inr rfl
 |i::l,t=>by
  simp only [iR];by_cases h:t=i
  ·subst h;rw [bB];exact .inl rfl
  rw [ck _ _ h];exact lB f l t
theorem Bo (f:Hp):∀(l:List Nat) (nm:Nat) (B:Blk),lA f l nm=some B->f nm=some B
 |[],_,_,h=>by cases h
 |i::l,nm,B,h=>by
  simp only [lA] at h;by_cases hi:nm=i
  ·subst hi;rw [bB] at h;exact h
  rw [ck _ _ hi] at h;exact Bo f l nm B h
def fC (H0 f:Hp):List Nat->Hp
 |[]=>H0
 |i::l=>up (fC H0 f l) i (f i)
theorem tr (H0 f:Hp):∀(l:List Nat),(∀x B,H0 x=some B->fI l x=true∨f x=some B)->∀(nm:Nat) (B:Blk),fC H0 f l nm=some B->f nm=some B
 |[],h,nm,B,hk=>(h nm B hk).resolve_left (by simp [fI])
 |i::l,h,nm,B,hk=>by
  simp only [fC] at hk;by_cases hi:nm=i
  ·subst hi;rw [bB] at hk;exact hk
  rw [ck _ _ hi] at hk;have key:∀(l':List Nat),fC H0 f l' nm=some B->fI l' nm=true->f nm=some B:=by
   intro l';induction l' with
   |nil=>intro _ h;simp [fI] at h
   |cons j l' ih=>
    intro h1 h2;simp only [fC] at h1;by_cases hj:nm=j
    ·subst hj;rw [bB] at h1;exact h1
    rw [ck _ _ hj] at h1;simp only [fI,Bool.or_eq_true,beq_iff_eq] at h2;exact ih h1 (h2.resolve_left (fun e=>hj e.symm))
  have key2:∀(l':List Nat),fC H0 f l' nm=some B->fI l' nm=false->H0 nm=some B:=by
   intro l';induction l' with
   |nil=>intro h _;exact h
   |cons j l' ih=>
    intro h1 h2;simp only [fC] at h1;simp only [fI,Bool.or_eq_false_iff,beq_eq_false_iff_ne,ne_eq] at h2;rw [ck _ _ (fun e=>h2.1 e.symm)] at h1;exact ih h1 h2.2
  cases hh:fI l nm with
  |true=>exact key l hk hh
  |false=>
   have h3:=key2 l hk hh;refine (h nm B h3).resolve_left ?_;simp only [fI,hh,Bool.or_false];simp only [beq_iff_eq];exact fun e=>hi e.symm
def Wk (e:En) (k0:Kx) (N:Nat) (st st2:St):Prop:=∀a w,Rel e k0 N st a w->Rel e k0 N st2 a w
section
variable {P : Program} {e : En} {k0 : Kx} {N : Nat} {st st2 st3 : St} {Q : Exit → St → Prop}
theorem Wk.refl (st:St):Wk e k0 N st st:=fun _ _ h=>h
theorem Wk.trans (h:Wk e k0 N st st2) (k:Wk e k0 N st2 st3):Wk e k0 N st st3:=fun a w hr=>k a w (h a w hr)
theorem aH (l m:List Nat):Wk e k0 N st ⟨iR st.tm l,lA st.H m,st.nx,st.nb⟩:=fun a w hr=>gT _ _ (lB _ l) (Bo _ m) hr
theorem bE (H0:Hp) (l m:List Nat) (h:∀x B,H0 x=some B->fI m x=true∨st.H x=some B):Wk e k0 N st ⟨iR st.tm l,fC H0 st.H m,st.nx,st.nb⟩:=fun a w hr=>gT _ _ (lB _ l) (tr _ _ m h) hr
theorem aE {c:Code} (H0:Hp) (l m:List Nat) (h:∀x B,H0 x=some B->fI m x=true∨st.H x=some B) (h2:Awp P e k0 N c Q ⟨iR st.tm l,fC H0 st.H m,st.nx,st.nb⟩):Awp P e k0 N c Q st:=iu _ (bE H0 l m h) h2
theorem be {c:Code} (h:Wk e k0 N st st2) (h2:Awp P e k0 N c Q st2):Awp P e k0 N c Q st:=iu st2 h h2
theorem aQ {c:Code} (l m:List Nat) (h2:Awp P e k0 N c Q ⟨iR st.tm l,lA st.H m,st.nx,st.nb⟩):Awp P e k0 N c Q st:=iu _ (aH l m) h2
theorem rS {c:Code} (t d:Nat) (E:TypeId) (sz:Nat) (hsz:sz≠0) (htm:st.tm t= .val (.one (.lit (.slice none 0 0)))) (h:Awp P e k0 N c Q ⟨up st.tm t (.val (.one (.own d st.nx 0 sz))),up st.H d (some ⟨st.nx,E,sz,0,[]⟩),st.nx+1,st.nb⟩):Awp P e k0 N c Q st:=
 iu _ (fun _ _ hr=>wL E sz hsz htm hr) h
theorem dE {c:Code} (nm off d:Nat) (B:Blk) (E:TypeId) (sz:Nat) (hsz':sz≠0) (hB:st.H nm=some B) (hne:nm≠d) (hsz:B.sz≠0) (hc:B.cs[off]? =some (.lit (.slice none 0 0)))
  (h:Awp P e k0 N c Q ⟨st.tm,up (up st.H d (some ⟨st.nx,E,sz,0,[]⟩)) nm (some {B with cs:=B.cs.set off (.own d st.nx 0 sz)}),st.nx+1,st.nb⟩):Awp P e k0 N c Q st:=
 iu _ (fun _ _ hr=>jr E sz hsz' hB hne hsz hc hr) h
theorem dL {c:Code} {t nm s n sz:Nat} {B:Blk} (htm:st.tm t= .val (.one (.own nm s n sz))) (hB:st.H nm=some B) (hsz:sz≠0) (hs:B.st=s) (h:Awp P e k0 N c Q ⟨up st.tm t (.val (.one (.sh sz n B.cs))),up st.H nm none,st.nx,st.nb⟩):Awp P e k0 N c Q st:=
 iu _ (fun _ _ hr=>oH hB hsz hs htm hr) h
theorem aB {c:Code} (I:Nat->St->Prop) (n0:Nat) (h0:I n0 st) (round:∀n st,I n st->Awp P e k0 N c (iO (fun st'=>∃st2,Wk e k0 N st' st2/\∃m,m<n/\I m st2) Q) st):Awp P e k0 N (.loop c) Q st:=by
 refine uk (fun n st=>∃st2,Wk e k0 N st st2/\I n st2) n0 ⟨st,Wk.refl st,h0⟩ fun n st ⟨st2,hw,hI⟩=>?_
 refine be hw (oE (round n st2 hI) fun ex st' hq=>?_);cases ex with
 |normal=>
  obtain ⟨st3,h1,m,h2,h3⟩:=hq;exact ⟨m,h2,st3,h1,h3⟩
 |_=>exact hq
end
def mkT:List (Nat×AV)->Nat->AV
 |[]=>fun _=> .dead
 |x::l=>up (mkT l) x.1 x.2
def bW (H0:Hp):List (Nat×Blk)->Hp
 |[]=>H0
 |x::l=>up (bW H0 l) x.1 (some x.2)
def mkH:List (Nat×Blk)->Hp
 |[]=>fun _=>none
 |x::l=>up (mkH l) x.1 (some x.2)
theorem rT (n:Int):inK .i64 n↔ -9223372036854775808<=n/\n<=9223372036854775807:=by
 have h1:IntKind.i64.min= -9223372036854775808:=by decide
 have h2:IntKind.i64.max=9223372036854775807:=by decide
 unfold inK;rw [h1,h2]
theorem tt (z:List C):eA 0 z=[]:=rfl
theorem mL (n:Nat) (z:List C):eA (n+1) z=z++eA n z:=by simp [eA,List.replicate_succ]
theorem nI (cs:List C) (off:Nat):spl cs off []=cs:=by simp [spl]
theorem jQ (c d:C) (cs ds:List C):spl (c::cs) 0 (d::ds)=d::spl cs 0 ds:=by simp [spl]
theorem lC (c:C) (cs ds:List C) (n:Nat):spl (c::cs) (n+1) ds=c::spl cs n ds:=by
 simp only [spl,List.take_succ_cons,List.cons_append];rw [show n+1+ds.length=(n+ds.length)+1 by omega,List.drop_succ_cons]
def SS:=And.intro @qq (And.intro @qr (And.intro @qt (And.intro @qu (And.intro @uo (And.intro @uq (And.intro @wC.eq_def (And.intro @ru.eq_def (And.intro @jp.eq_def (And.intro @jn.eq_def (And.intro @jo.eq_def (And.intro @gd.eq_def (And.intro @fb.eq_def (And.intro @eff.eq_def (And.intro @ev.eq_def (And.intro @qb.eq_def (And.intro @nc.eq_def (And.intro @A1.cells.eq_def (And.intro @d8.eq_def (And.intro @og.eq_def (And.intro @jl.eq_def (And.intro @im.eq_def (And.intro @io.eq_def (And.intro @x8.eq_def (And.intro @bnd.eq_def (And.intro @cut.eq_def (And.intro @wD.eq_def (And.intro @gN.eq_1 (And.intro @gN.eq_2 (And.intro @jq.eq_def (And.intro @fR.eq_1 (And.intro @fR.eq_2 (And.intro @dj.eq_def (And.intro @av.eq_1 (And.intro @av.eq_2 (And.intro @az.eq_1 (And.intro @az.eq_2 (And.intro @az.eq_3 (And.intro @az.eq_4 (And.intro @kF.eq_def (And.intro @bu.eq_def (And.intro @aI.eq_def (And.intro @FT.eq_def (And.intro @ql.eq_def (And.intro @qk.eq_1 (And.intro @qk.eq_2 (And.intro @sN.eq_def (And.intro @wE.eq_def (And.intro @putO.eq_def (And.intro @ini.eq_def (And.intro @FI.eq_1 (And.intro @FI.eq_2 (And.intro @wB.eq_def (And.intro @j6.eq_1 (And.intro @j6.eq_2 (And.intro @gx.eq_def (And.intro @zn.eq_1 (And.intro @zn.eq_2 (And.intro @iR.eq_1 (And.intro @iR.eq_2 (And.intro @lA.eq_1 (And.intro @lA.eq_2 (And.intro @B6.eq_def (And.intro @mkT.eq_1 (And.intro @mkT.eq_2 (And.intro @mkH.eq_1 (And.intro @mkH.eq_2 (And.intro @rT (And.intro @tt (And.intro @mL (And.intro @nI (And.intro @jQ (And.intro @lC (And.intro @yg (And.intro @wJ (And.intro @yh (And.intro @wK (And.intro @yi (And.intro @zl (And.intro @zm (And.intro @IU (And.intro @zo (And.intro @IV (And.intro @IW (And.intro @sS (And.intro @sT (And.intro @sU (And.intro @SchO.mk.eq_1 (And.intro @SchO.mk.eq_2 (And.intro @SchO.mk.eq_3 (And.intro @fC.eq_1 (And.intro @fC.eq_2 (And.intro @bW.eq_1 (And.intro @bW.eq_2 (And.intro @qp (And.intro @wI (And.intro @qj.eq_def (And.intro @qi.eq_1 (And.intro @qi.eq_2 (And.intro @ir.eq_def (And.intro @sK.eq_def (And.intro @tZ.eq_def (And.intro @rt.eq_def (And.intro @m7.eq_def (And.intro @fI.eq_1 (And.intro @fI.eq_2 (And.intro @LU (And.intro @yl (And.intro @sW (And.intro @sX (And.intro @yd.eq_def (And.intro @kP.eq_1 (And.intro @kP.eq_2 (And.intro @sV (And.intro @ym (And.intro @yn (And.intro @yj (And.intro @yo (And.intro @yp (And.intro @yq (And.intro @yr (And.intro @aj (And.intro @ne (And.intro @qn (And.intro @sR (And.intro @l9 (And.intro @qo (And.intro @oF (And.intro @oG (And.intro @ul (And.intro @Option.bind_some.{0,0} (And.intro @Option.bind_none.{0,0} (And.intro @Option.map_some.{0,0} (And.intro @Option.map_none.{0,0} (And.intro @List.toList_toArray.{0} (And.intro @List.map_cons.{0,0} (And.intro @List.map_nil.{0,0} (And.intro @List.drop_succ_cons.{0} (And.intro @List.drop_zero.{0} (And.intro @List.take_succ_cons.{0} (And.intro @List.take_zero.{0} (And.intro @List.length_cons.{0} (And.intro @List.length_nil.{0} (And.intro @List.getElem?_cons_zero.{0} (And.intro @List.getElem?_cons_succ.{0} (And.intro @List.getElem?_toArray.{0} (And.intro @true_and (And.intro @and_true (And.intro @Bool.or_false (And.intro @Bool.false_or (And.intro @Bool.and_true (And.intro @decide_true (And.intro @decide_false (And.intro @not_true_eq_false (And.intro @not_false_eq_true (And.intro @Nat.zero_add (And.intro @true_or (And.intro @or_true (And.intro @exists_eq_left'.{1} (And.intro @Option.some.injEq.{0} (And.intro @Bool.true_and (And.intro @Bool.false_and (And.intro @Bool.and_self (And.intro @Bool.not_true (And.intro @Bool.not_false (And.intro @List.all_cons.{0} (And.intro @List.all_nil.{0} (And.intro @List.set_cons_zero.{0} (And.intro @List.set_cons_succ.{0} (And.intro @if_true.{1} (And.intro @if_false.{1} (And.intro @Nat.add_zero (And.intro @Nat.zero_mul (And.intro @Nat.mul_one (And.intro @Nat.one_mul (And.intro @List.nil_append.{0} (And.intro @List.cons_append.{0} (And.intro @List.append_nil.{0} (@Int.toNat_natCast))))))))))))))))))))))))))))))))))))))))))))))))))))))))))))))))))))))))))))))))))))))))))))))))))))))))))))))))))))))))))))))))))))))))))))))))))))))))))))))))))))))))))))))))))
def ar {α:Type} (f:α->List C) (l:List α):List C:=(l.map f).flatten
theorem ej {α:Type} (f:α->List C):ar f []=[]:=rfl
theorem aY {α:Type} (f:α->List C) (a:α) (l:List α):ar f (a::l)=f a++ar f l:=by simp [ar]
theorem aV {α:Type} (f:α->List C) (l m:List α):ar f (l++m)=ar f l++ar f m:=by simp [ar]
theorem ay {α:Type} (f:α->List C) (l:List α) (a:α):ar f (l++[a])=ar f l++f a:=by simp [ar]
theorem aS {α:Type} {f:α->List C} {sz:Nat} (hf:∀a,(f a).length=sz):∀l:List α,(ar f l).length=l.length*sz
 |[]=>by simp [ar]
 |a::l=>by rw [aY,List.length_append,hf,aS hf l,List.length_cons,Nat.succ_mul,Nat.add_comm]
theorem mM {α:Type} {f:α->List C} {sz:Nat} (hf:∀a,(f a).length=sz):∀(l:List α) (k:Nat),(ar f l).drop (k*sz)=ar f (l.drop k)
 |l,0=>by simp
 |[],k+1=>by simp [ar]
 |a::l,k+1=>by
  rw [aY,Nat.succ_mul,Nat.add_comm,←List.drop_drop,List.drop_left' (hf a),mM hf l k,List.drop_succ_cons]
theorem aO {α:Type} {f:α->List C} {sz:Nat} (hf:∀a,(f a).length=sz) (l:List α) (k:Nat) (h:k<l.length):(ar f l).drop (k*sz)=f l[k]++ar f (l.drop (k+1)):=by
 rw [mM hf,List.drop_eq_getElem_cons h,aY]
theorem pg (a b:List C):av (a++b)=(av a&&av b):=by
 induction a with
 |nil=>simp [av]
 |cons c a ih=>simp [av,ih,Bool.and_assoc]
theorem ab {α:Type} {f:α->List C} (hf:∀a,av (f a)=true):∀l:List α,av (ar f l)=true
 |[]=>rfl
 |a::l=>by rw [aY,pg,hf,ab hf l];rfl
section
variable {P : Program} {e : En} {k0 : Kx} {N : Nat} {st : St} {Q : Exit → St → Prop} {ops : Array Oper}
def jR (zP:Program) (ze:En) (zk:Kx) (zN:Nat):Nat->Code->(Exit->St->Prop)->Code×(Exit->St->Prop)
 |n+1,.seq x y,zQ=>jR zP ze zk zN n x (iO (Awp zP ze zk zN y zQ) zQ)
 |n+1,.block i c,zQ=>jR zP ze zk zN n c (i4 i zQ)
 |_,c,zQ=>(c,zQ)
theorem wZ (n:Nat):∀(c:Code) (Q:Exit->St->Prop),Awp P e k0 N (jR P e k0 N n c Q).1 (jR P e k0 N n c Q).2 st->Awp P e k0 N c Q st:=by
 induction n with
 |zero=>intro c Q h;cases c<;>exact h
 |succ n ih=>
  intro c Q h;cases c with
  |seq x y=>exact rG (ih _ _ h)
  |block i c=>exact mw (ih _ _ h)
  |_=>exact h
theorem awL {c x:Code} {Q':Exit->St->Prop} (hc:jR P e k0 N 99 c Q=(x,Q')) (h:Awp P e k0 N x Q' st):Awp P e k0 N c Q st:=wZ 99 c Q (by rw [hc];exact h)
def gz1 (n:Nat):Option (Nat×Bool):=if n=0 then none else some (n/2-1,n%2==1)
def gz:List Nat->List (Option (Nat×Bool))
 |[]=>[]
 |n::l=>gz1 n::gz l
theorem awR (I:List Nat) {id:Nat} {l:List Oper} {c:Code} {Q':Exit->St->Prop} (cd:List Nat) {gs:List (Option (Nat×Bool))} (h:AL P N I (Q' .normal) l gs st) (hgs:gz cd=gs:=by simp only [gz.eq_1,gz.eq_2,gz1.eq_1,seval,reduceIte];rfl) (hc:jR P e k0 N 99 c Q=(.region id ops false,Q'):=by rfl) (hl:ops.toList=l:=by rfl) (hg:cX ops=gs:=by kernel_rfl) (hN:decide (N<1000000)=true:=by decide):Awp P e k0 N c Q st:=awL hc (kS I hl hg hN h)
theorem awT {c:Operand} {b x y:Code} {Q':Exit->St->Prop} (h:Awp P e k0 N x Q' st) (hb:jR P e k0 N 99 b Q=(.cond c x y,Q'):=by rfl) (hc:ev st c= .val (.one (.lit (.bool true))):=by rfl):Awp P e k0 N b Q st:=awL hb (oD true hc (fun _=>h) (fun h=>by cases h))
theorem awF {c:Operand} {b x y:Code} {Q':Exit->St->Prop} (h:Awp P e k0 N y Q' st) (hb:jR P e k0 N 99 b Q=(.cond c x y,Q'):=by rfl) (hc:ev st c= .val (.one (.lit (.bool false))):=by rfl):Awp P e k0 N b Q st:=awL hb (oD false hc (fun h=>by cases h) (fun _=>h))
theorem awK {c:Code} {Q':Exit->St->Prop} (h:Q' .normal st) (hb:jR P e k0 N 99 c Q=(.skip,Q'):=by rfl):Awp P e k0 N c Q st:=awL hb (ui h)
theorem awX {c:Code} {Q':Exit->St->Prop} (h:Q' .ret st) (hb:jR P e k0 N 99 c Q=(.ret,Q'):=by rfl):Awp P e k0 N c Q st:=awL hb (wH h)
theorem awQ {c:Code} {i:Nat} {Q':Exit->St->Prop} (h:Q' (.exit i) st) (hb:jR P e k0 N 99 c Q=(.exit i,Q'):=by rfl):Awp P e k0 N c Q st:=awL hb (uj h)
theorem ob {p q:Prop} (hq:q) (hp:p:=by first|omega|(simp only [List.length_cons];omega)|exact ⟨⟨by omega,by omega⟩,rfl⟩|rfl):p/\q:=⟨hp,hq⟩
def scq:List Nat->Sch->Sch
 |[],s=>s
 |n::l,s=> .cons (n/2) (n%2==1) (scq l s)
def ALn (P:Program) (N:Nat) (Q:St->Prop):List Oper->St->Prop
 |[],st=>Q st
 |o::os,st=>fb P N [] st o (ALn P N Q os)
theorem xb {Q:St->Prop}:ALn P N Q [] st=Q st:=rfl
theorem ph {Q:St->Prop} {o:Oper} {os:List Oper}:ALn P N Q (o::os) st=fb P N [] st o (ALn P N Q os):=rfl
theorem Lg {Q:St->Prop}:∀l:List Oper,ALn P N Q l=AL P N [] Q l (l.map fun _=>none)
 |[]=>by funext st;rfl
 |o::os=>by
  funext st;rw [ph,Lg os];rfl
theorem rU {α β:Type}:∀(xs:List (Option β)) (l:List α),xs.all Option.isNone=true->l.length=xs.length->xs=l.map fun _=>(none:Option β)
 |[],[],_,_=>rfl
 |x::xs,a::l,h,hl=>by
  simp only [List.all_cons,Bool.and_eq_true,Option.isNone_iff_eq_none] at h;obtain ⟨rfl,h2⟩:=h;have e:=rU xs l h2 (by simpa using hl);rw [List.map_cons];exact congrArg _ e
 |[],_::_,_,hl=>by simp at hl
 |_::_,[],_,hl=>by simp at hl
theorem awN {id:Nat} {l:List Oper} {c:Code} {Q':Exit->St->Prop} (h:ALn P N (Q' .normal) l st) (hc:jR P e k0 N 99 c Q=(.region id ops false,Q'):=by rfl) (hl:ops.toList=l:=by rfl) (hg:(cX ops).all Option.isNone=true:=by kernel_rfl) (hN:decide (N<1000000)=true:=by decide):Awp P e k0 N c Q st:=
 awL hc (kS [] hl (rU (cX ops) l hg (by rw [←hl];simp [cX])) hN (by rw [←Lg];exact h))
def scT:Nat->Nat->Sch->Sch
 |_,0,s=>s
 |i,n+1,s=> .cons i true (scT (i+1) n s)
def zS:=And.intro (And.intro @xb @ph) (And.intro SS @ne_eq.{1})
theorem zT:type_of%zS:=zS
theorem awD (s:Sch) (cd:List Nat) {gs:List (Option (Nat×Bool))} {id:Nat} {r:SchO} {c:Code} {Q':Exit->St->Prop} (h:AT P N (Q' .normal) r st) (hgs:gz cd=gs:=by simp only [gz.eq_1,gz.eq_2,gz1.eq_1,seval,reduceIte];rfl) (hc:jR P e k0 N 99 c Q=(.region id ops true,Q'):=by rfl) (hm:P.follows .mixedOrders=true:=by kernel_rfl)
 (hB:(Region.noSelect ops&&decide (s.len=ops.size)&&eC .any ops (JH ops) s (Array.replicate ops.size false))=true:=by kernel_rfl) (hg:cX ops=gs:=by kernel_rfl) (hr:SchO.mk ops gs s=some r:=by simp only [scq.eq_1,scq.eq_2,scT.eq_1,scT.eq_2,(id zS),seval];rfl) (hN:decide (N<1000000)=true:=by decide):Awp P e k0 N c Q st:=awL hc (sP hm s hB hg hr hN h)
theorem awS {zP:Program} {ze:En} {zk:Kx} {zN:Nat} {zs:St} {zQ:Exit->St->Prop} {zx zy:Code} (zh:Awp zP ze zk zN zx (iO (Awp zP ze zk zN zy zQ) zQ) zs):Awp zP ze zk zN (.seq zx zy) zQ zs:=rG zh
theorem awB {zP:Program} {ze:En} {zk:Kx} {zN:Nat} {zs:St} {zQ:Exit->St->Prop} {zi:Nat} {zc:Code} (zh:Awp zP ze zk zN zc (i4 zi zQ) zs):Awp zP ze zk zN (.block zi zc) zQ zs:=mw zh
end
theorem tf0:elT prog 47=some (46,5,56):=by kernel_rfl
theorem tf1:arT prog 48=none:=by kernel_rfl
theorem tf2:elT prog 48=some (47,1,24):=by kernel_rfl
theorem tf3:ldT prog 47=some (false,1):=by kernel_rfl
theorem tf4:(prog).underlying 3=some (.int .i64):=by kernel_rfl
theorem tf5:zrT prog 46=some [.int .i64 0,.bool false,.bool false,.string cc,.string cc]:=by kernel_rfl
theorem tf6:arT prog 47=none:=by kernel_rfl
theorem tf7:elT prog 73=some (3,1,8):=by kernel_rfl
theorem tf8:foT prog 50 0=some (0,48):=by kernel_rfl
theorem tf9:foT prog 46 0=some (0,3):=by kernel_rfl
theorem pi:ldT prog 48=some (false,1):=by kernel_rfl
theorem tu:ldT prog 46=some (true,5):=by kernel_rfl
theorem xd:ldT prog 3=some (false,1):=by kernel_rfl
theorem Kg:zrT prog 3=some [.int .i64 0]:=by kernel_rfl
theorem Jy:arT prog 33=none:=by kernel_rfl
theorem KF:arT prog 25=none:=by kernel_rfl
theorem pj:elT prog 33=some (38,5,56):=by kernel_rfl
theorem u6:elT prog 25=some (36,5,88):=by kernel_rfl
theorem u7:foT prog 38 0=some (0,3):=by kernel_rfl
theorem pk:foT prog 36 1=some (3,33):=by kernel_rfl
theorem tv:foT prog 28 0=some (0,25):=by kernel_rfl
theorem tw:foT prog 44 0=some (0,3):=by kernel_rfl
theorem pl:foT prog 44 1=some (1,3):=by kernel_rfl
theorem tx:ldT prog 33=some (false,1):=by kernel_rfl
theorem tz:ldT prog 25=some (false,1):=by kernel_rfl
theorem pm:arT prog 40=none:=by kernel_rfl
theorem tA:elT prog 40=some (44,2,16):=by kernel_rfl
theorem xe:foT prog 42 0=some (0,32):=by kernel_rfl
theorem xf:foT prog 42 1=some (3,40):=by kernel_rfl
theorem xg:ldT prog 40=some (false,1):=by kernel_rfl
theorem xh:ldT prog 28=some (true,2):=by kernel_rfl
theorem yB:ldT prog 44=some (true,2):=by kernel_rfl
theorem jS:ldT prog 32=some (true,3):=by kernel_rfl
theorem jT:mpT prog 100=some (44,.bool false):=by kernel_rfl
theorem yC:zrT prog 44=some [.int .i64 0,.int .i64 0]:=by kernel_rfl
theorem yD:arT prog 112=none:=by kernel_rfl
theorem jU:elT prog 112=some (4,1,1):=by kernel_rfl
theorem tB:foT prog 46 1=some (1,4):=by kernel_rfl
theorem mf:foT prog 46 2=some (2,32):=by kernel_rfl
theorem xi:ldT prog 4=some (false,1):=by kernel_rfl
theorem yE:arT prog 34=none:=by kernel_rfl
theorem yF:arT prog 73=none:=by kernel_rfl
theorem zw:elT prog 34=some (50,1,24):=by kernel_rfl
theorem I0:foT prog 38 1=some (1,3):=by kernel_rfl
theorem u9:foT prog 38 2=some (2,32):=by kernel_rfl
theorem yG:foT prog 36 0=some (0,32):=by kernel_rfl
theorem zA:foT prog 36 2=some (4,34):=by kernel_rfl
theorem zB:ldT prog 34=some (false,1):=by kernel_rfl
theorem pn:ldT prog 50=some (true,1):=by kernel_rfl
theorem nK:ldT prog 38=some (true,5):=by kernel_rfl
theorem nL:zrT prog 50=some [.slice none 0 0]:=by kernel_rfl
theorem po:zrT prog 38=some [.int .i64 0,.int .i64 0,.bool false,.string cc,.string cc]:=by kernel_rfl
theorem nM:zrT prog 4=some [.bool false]:=by kernel_rfl
theorem nN:arT prog 26=none:=by kernel_rfl
theorem vd:elT prog 26=some (42,4,64):=by kernel_rfl
theorem qO:foT prog 28 1=some (1,26):=by kernel_rfl
theorem zZ:ldT prog 26=some (false,1):=by kernel_rfl
theorem zC:ldT prog 42=some (true,4):=by kernel_rfl
theorem tC:ldT prog 36=some (true,5):=by kernel_rfl
theorem z6:zrT prog 42=some [.bool false,.string cc,.string cc,.slice none 0 0]:=by kernel_rfl
theorem z7:zrT prog 36=some [.bool false,.string cc,.string cc,.slice none 0 0,.slice none 0 0]:=by kernel_rfl
theorem z8:plT prog 32=some [(0,1),(1,1),(2,1)]:=by kernel_rfl
theorem Aa:zrT prog 32=some [.bool false,.string cc,.string cc]:=by kernel_rfl
theorem Ab:plT prog 36=some [(0,3),(3,1),(4,1)]:=by kernel_rfl
theorem Ac:zrT prog 47=some [.slice none 0 0]:=by kernel_rfl
theorem Ad:plT prog 42=some [(0,3),(3,1)]:=by kernel_rfl
theorem xj:zrT prog 28=some [.slice none 0 0,.slice none 0 0]:=by kernel_rfl
theorem Ae:foT prog 32 0=some (0,4):=by kernel_rfl
theorem Af:foT prog 32 1=some (1,9):=by kernel_rfl
theorem Ag:ldT prog 9=some (false,1):=by kernel_rfl
theorem Ah:(prog).underlying 4=some .bool:=by kernel_rfl
theorem Ai:foT prog 61 0=some (0,3):=by kernel_rfl
theorem Aj:foT prog 61 1=some (1,3):=by kernel_rfl
theorem zD:foT prog 61 2=some (2,3):=by kernel_rfl
theorem Ak:foT prog 61 3=some (3,32):=by kernel_rfl
theorem Al:plT prog 38=some [(0,1),(1,1),(2,3)]:=by kernel_rfl
theorem zE:arT prog 57=none:=by kernel_rfl
theorem zF:elT prog 57=some (61,6,64):=by kernel_rfl
theorem zG:ldT prog 61=some (true,6):=by kernel_rfl
theorem Am:plT prog 28=some [(0,1),(1,1)]:=by kernel_rfl
theorem yH:zrT prog 61=some [.int .i64 0,.int .i64 0,.int .i64 0,.bool false,.string cc,.string cc]:=by kernel_rfl
theorem An:arT prog 111=none:=by kernel_rfl
theorem zH:arT prog 97=none:=by kernel_rfl
theorem zI:elT prog 111=some (97,1,24):=by kernel_rfl
theorem Ao:elT prog 97=some (32,3,40):=by kernel_rfl
theorem yI:foT prog 114 4=some (4,111):=by kernel_rfl
theorem zJ:ldT prog 111=some (false,1):=by kernel_rfl
theorem Ap:ldT prog 97=some (false,1):=by kernel_rfl
theorem Aq:ldT prog 114=some (true,8):=by kernel_rfl
theorem LB:plT prog 61=some [(0,1),(1,1),(2,1),(3,3)]:=by kernel_rfl
theorem Mz:zrT prog 114=some [.slice none 0 0,.slice none 0 0,.slice none 0 0,.slice none 0 0,.slice none 0 0,.slice none 0 0,.slice none 0 0,.slice none 0 0]:=by kernel_rfl
theorem MA:(prog).underlying 5=some (.int .u8):=by kernel_rfl
theorem MB:(prog).underlying 69=some (.int .u64):=by kernel_rfl
end Go.Proofs.YtcgpghifhehlhaaGreatDoor
