/- The abstract machine: contracts that were proved over the model, taken over. -/
import Derived.Test.YtclkgcigacbmiaaGreatDoorEv4M
import Derived.Test.YtclkgcigacbmiaaGreatDoorVal3M
import Derived.Test.YtclkgcigacbmiaaGreatDoorProg
import Derived.Test.YtclkgcigacbmiaaGreatDoorAb7M
set_option linter.unusedVariables false
set_option linter.unusedSimpArgs false
set_option linter.defProp false
set_option linter.unusedSectionVars false
namespace Go.Proofs.YtclkgcigacbmiaaGreatDoor
open Go Go.RowKit Go.Proofs.Tryz
def bk (r:GRat):List C:=[.lit (.bool r.neg),.lit (.string r.num),.lit (.string r.den)]
theorem rX (r1 r2:GRat) (m n:Nat) (h1:sB m r1) (h2:sB n r2) (hm:m<=100000000000) (hn:n<=100000000000) (hm0:0<m) (hn0:0<n):
  ACall prog 92 [.agg (bk r1),.agg (bk r2)] (one (.int .i64 (eW (qOf r1) (qOf r2)))):=
 aJ (aV func92 (by decide) (by kernel_rfl)) [az r1,az r2] (.int .i64 (eW (qOf r1) (qOf r2))) fun w=>lC r1 r2 m n w h1 h2 hm hn hm0 hn0
def iz (f:Nat->AV):List Nat->Nat->AV
 |[]=>fun _=> .dead
 |i::l=>up (iz f l) i (f i)
def rY (f:Hp):List Nat->Hp
 |[]=>fun _=>none
 |i::l=>up (rY f l) i (f i)
theorem mR (f:Nat->AV):∀(l:List Nat) (t:Nat),iz f l t=f t∨iz f l t= .dead
 |[],_=> .inr rfl
 |i::l,t=>by
  simp only [iz];by_cases h:t=i
  ·subst h;rw [aO];exact .inl rfl
  rw [bM _ _ h];exact mR f l t
def dr (H0 f:Hp):List Nat->Hp
 |[]=>H0
 |i::l=>up (dr H0 f l) i (f i)
theorem p7 (H0 f:Hp):∀(l:List Nat),(∀x B,H0 x=some B->ez l x=true∨f x=some B)->∀(nm:Nat) (B:Blk),dr H0 f l nm=some B->f nm=some B
 |[],h,nm,B,hk=>(h nm B hk).resolve_left (by simp [ez])
 |i::l,h,nm,B,hk=>by
  simp only [dr] at hk;by_cases hi:nm=i
  ·subst hi;rw [aO] at hk;exact hk
  rw [bM _ _ hi] at hk;have key:∀(l':List Nat),dr H0 f l' nm=some B->ez l' nm=true->f nm=some B:=by
   intro l';induction l' with
   |nil=>intro _ h;simp [ez] at h
   |cons j l' ih=>
    intro h1 h2;simp only [dr] at h1;by_cases hj:nm=j
    ·subst hj;rw [aO] at h1;exact h1
    rw [bM _ _ hj] at h1;simp only [ez,Bool.or_eq_true,beq_iff_eq] at h2;exact ih h1 (h2.resolve_left (fun e=>hj e.symm))
  have key2:∀(l':List Nat),dr H0 f l' nm=some B->ez l' nm=false->H0 nm=some B:=by
   intro l';induction l' with
   |nil=>intro h _;exact h
   |cons j l' ih=>
    intro h1 h2;simp only [dr] at h1;simp only [ez,Bool.or_eq_false_iff,beq_eq_false_iff_ne,ne_eq] at h2;rw [bM _ _ (fun e=>h2.1 e.symm)] at h1;exact ih h1 h2.2
  cases hh:ez l nm with
  |true=>exact key l hk hh
  |false=>
   have h3:=key2 l hk hh;refine (h nm B h3).resolve_left ?_;simp only [ez,hh,Bool.or_false];simp only [beq_iff_eq];exact fun e=>hi e.symm
def Wk (e:En) (k0:Kx) (N:Nat) (st st2:St):Prop:=∀a w,Rel e k0 N st a w->Rel e k0 N st2 a w
section
variable {P : Program} {e : En} {k0 : Kx} {N : Nat} {st st2 st3 : St} {Q : Exit → St → Prop}
theorem Wk.refl (st:St):Wk e k0 N st st:=fun _ _ h=>h
theorem Wk.trans (h:Wk e k0 N st st2) (k:Wk e k0 N st2 st3):Wk e k0 N st st3:=fun a w hr=>k a w (h a w hr)
theorem aM (H0:Hp) (l m:List Nat) (h:∀x B,H0 x=some B->ez m x=true∨st.H x=some B):Wk e k0 N st ⟨iz st.tm l,dr H0 st.H m,st.nx,st.nb⟩:=fun a w hr=>je _ _ (mR _ l) (p7 _ _ m h) hr
theorem fW {c:Code} (H0:Hp) (l m:List Nat) (h:∀x B,H0 x=some B->ez m x=true∨st.H x=some B) (h2:Awp P e k0 N c Q ⟨iz st.tm l,dr H0 st.H m,st.nx,st.nb⟩):Awp P e k0 N c Q st:=kL _ (aM H0 l m h) h2
theorem aN {c:Code} (h:Wk e k0 N st st2) (h2:Awp P e k0 N c Q st2):Awp P e k0 N c Q st:=kL st2 h h2
theorem tK {c:Code} (t d:Nat) (E:TypeId) (sz:Nat) (hsz:sz≠0) (htm:st.tm t= .val (.one (.lit (.slice none 0 0)))) (h:Awp P e k0 N c Q ⟨up st.tm t (.val (.one (.own d st.nx 0 sz))),up st.H d (some ⟨st.nx,E,sz,0,[]⟩),st.nx+1,st.nb⟩):Awp P e k0 N c Q st:=
 kL _ (fun _ _ hr=>td E sz hsz htm hr) h
theorem hJ {c:Code} (I:Nat->St->Prop) (n0:Nat) (h0:I n0 st) (round:∀n st,I n st->Awp P e k0 N c (ga (fun st'=>∃st2,Wk e k0 N st' st2/\∃m,m<n/\I m st2) Q) st):Awp P e k0 N (.loop c) Q st:=by
 refine mb (fun n st=>∃st2,Wk e k0 N st st2/\I n st2) n0 ⟨st,Wk.refl st,h0⟩ fun n st ⟨st2,hw,hI⟩=>?_
 refine aN hw (mc (round n st2 hI) fun ex st' hq=>?_);cases ex with
 |normal=>
  obtain ⟨st3,h1,m,h2,h3⟩:=hq;exact ⟨m,h2,st3,h1,h3⟩
 |_=>exact hq
end
def mkT:List (Nat×AV)->Nat->AV
 |[]=>fun _=> .dead
 |x::l=>up (mkT l) x.1 x.2
def lD (H0:Hp):List (Nat×Blk)->Hp
 |[]=>H0
 |x::l=>up (lD H0 l) x.1 (some x.2)
def mkH:List (Nat×Blk)->Hp
 |[]=>fun _=>none
 |x::l=>up (mkH l) x.1 (some x.2)
theorem tL (n:Int):inK .i64 n↔ -9223372036854775808<=n/\n<=9223372036854775807:=by
 have h1:IntKind.i64.min= -9223372036854775808:=by decide
 have h2:IntKind.i64.max=9223372036854775807:=by decide
 unfold inK;rw [h1,h2]
theorem p8 (z:List C):b5 0 z=[]:=rfl
theorem p9 (n:Nat) (z:List C):b5 (n+1) z=z++b5 n z:=by simp [b5,List.replicate_succ]
theorem tM (cs:List C) (off:Nat):spl cs off []=cs:=by simp [spl]
theorem qb (c d:C) (cs ds:List C):spl (c::cs) 0 (d::ds)=d::spl cs 0 ds:=by simp [spl]
theorem rZ (c:C) (cs ds:List C) (n:Nat):spl (c::cs) (n+1) ds=c::spl cs n ds:=by
 simp only [spl,List.take_succ_cons,List.cons_append];rw [show n+1+ds.length=(n+ds.length)+1 by omega,List.drop_succ_cons]
def SS:=And.intro @nh (And.intro @ni (And.intro @nj (And.intro @nk (And.intro @qG (And.intro @qH (And.intro @qx.eq_def (And.intro @om.eq_def (And.intro @eG.eq_def (And.intro @eF.eq_def (And.intro @dX.eq_def (And.intro @gd.eq_def (And.intro @cO.eq_def (And.intro @eff.eq_def (And.intro @ev.eq_def (And.intro @m0.eq_def (And.intro @cellsOf.eq_def (And.intro @A1.cells.eq_def (And.intro @bB.eq_def (And.intro @ib.eq_def (And.intro @ce.eq_def (And.intro @cW.eq_def (And.intro @cu.eq_def (And.intro @vW.eq_def (And.intro @bnd.eq_def (And.intro @cut.eq_def (And.intro @sX.eq_def (And.intro @eH.eq_1 (And.intro @eH.eq_2 (And.intro @f9.eq_def (And.intro @dD.eq_1 (And.intro @dD.eq_2 (And.intro @bR.eq_def (And.intro @bC.eq_1 (And.intro @bC.eq_2 (And.intro @bf.eq_1 (And.intro @bf.eq_2 (And.intro @bf.eq_3 (And.intro @bf.eq_4 (And.intro @dU.eq_def (And.intro @kF.eq_def (And.intro @cf.eq_def (And.intro @f8.eq_def (And.intro @na.eq_def (And.intro @m9.eq_1 (And.intro @m9.eq_2 (And.intro @l6.eq_def (And.intro @m6.eq_def (And.intro @putO.eq_def (And.intro @ini.eq_def (And.intro @fM.eq_1 (And.intro @fM.eq_2 (And.intro @sW.eq_def (And.intro @cE.eq_1 (And.intro @cE.eq_2 (And.intro @dh.eq_def (And.intro @bX.eq_1 (And.intro @bX.eq_2 (And.intro @iz.eq_1 (And.intro @iz.eq_2 (And.intro @rY.eq_1 (And.intro @rY.eq_2 (And.intro @oo.eq_def (And.intro @mkT.eq_1 (And.intro @mkT.eq_2 (And.intro @mkH.eq_1 (And.intro @mkH.eq_2 (And.intro @tL (And.intro @p8 (And.intro @p9 (And.intro @tM (And.intro @qb (And.intro @rZ (And.intro @vZ (And.intro @tb (And.intro @v6 (And.intro @tc (And.intro @v7 (And.intro @xO (And.intro @xP (And.intro @xQ (And.intro @xR (And.intro @xS (And.intro @xT (And.intro @px (And.intro @py (And.intro @pz (And.intro @SchO.mk.eq_1 (And.intro @SchO.mk.eq_2 (And.intro @SchO.mk.eq_3 (And.intro @dr.eq_1 (And.intro @dr.eq_2 (And.intro @lD.eq_1 (And.intro @lD.eq_2 (And.intro @ng (And.intro @ta (And.intro @ja.eq_def (And.intro @gK.eq_1 (And.intro @gK.eq_2 (And.intro @dM.eq_def (And.intro @kE.eq_def (And.intro @oe.eq_def (And.intro @ol.eq_def (And.intro @iY.eq_def (And.intro @ez.eq_1 (And.intro @ez.eq_2 (And.intro @wb (And.intro @wg (And.intro @pB (And.intro @pC (And.intro @vX.eq_def (And.intro @gL.eq_1 (And.intro @gL.eq_2 (And.intro @pA (And.intro @wh (And.intro @wi (And.intro @v8 (And.intro @wj (And.intro @wk (And.intro @wl (And.intro @wq (And.intro @aj (And.intro @kN (And.intro @ne (And.intro @pw (And.intro @jP (And.intro @nf (And.intro @mf (And.intro @mg (And.intro @qF (And.intro @Option.bind_some.{0,0} (And.intro @Option.bind_none.{0,0} (And.intro @Option.map_some.{0,0} (And.intro @Option.map_none.{0,0} (And.intro @List.toList_toArray.{0} (And.intro @List.map_cons.{0,0} (And.intro @List.map_nil.{0,0} (And.intro @List.drop_succ_cons.{0} (And.intro @List.drop_zero.{0} (And.intro @List.take_succ_cons.{0} (And.intro @List.take_zero.{0} (And.intro @List.length_cons.{0} (And.intro @List.length_nil.{0} (And.intro @List.getElem?_cons_zero.{0} (And.intro @List.getElem?_cons_succ.{0} (And.intro @List.getElem?_toArray.{0} (And.intro @true_and (And.intro @and_true (And.intro @Bool.or_false (And.intro @Bool.false_or (And.intro @Bool.and_true (And.intro @decide_true (And.intro @decide_false (And.intro @not_true_eq_false (And.intro @not_false_eq_true (And.intro @Nat.zero_add (And.intro @true_or (And.intro @or_true (And.intro @exists_eq_left'.{1} (And.intro @Option.some.injEq.{0} (And.intro @Bool.true_and (And.intro @Bool.false_and (And.intro @Bool.and_self (And.intro @Bool.not_true (And.intro @Bool.not_false (And.intro @List.all_cons.{0} (And.intro @List.all_nil.{0} (And.intro @List.set_cons_zero.{0} (And.intro @List.set_cons_succ.{0} (And.intro @if_true.{1} (And.intro @if_false.{1} (And.intro @Nat.add_zero (And.intro @Nat.zero_mul (And.intro @Nat.mul_one (And.intro @Nat.one_mul (And.intro @List.nil_append.{0} (And.intro @List.cons_append.{0} (And.intro @List.append_nil.{0} (@Int.toNat_natCast))))))))))))))))))))))))))))))))))))))))))))))))))))))))))))))))))))))))))))))))))))))))))))))))))))))))))))))))))))))))))))))))))))))))))))))))))))))))))))))))))))))))))))))))))
def r6 {α:Type} (f:α->List C) (l:List α):List C:=(l.map f).flatten
theorem bx {α:Type} (f:α->List C) (l:List α) (a:α):r6 f (l++[a])=r6 f l++f a:=by simp [r6]
section
variable {P : Program} {e : En} {k0 : Kx} {N : Nat} {st : St} {Q : Exit → St → Prop} {ops : Array Oper}
def hZ (zP:Program) (ze:En) (zk:Kx) (zN:Nat):Nat->Code->(Exit->St->Prop)->Code×(Exit->St->Prop)
 |n+1,.seq x y,zQ=>hZ zP ze zk zN n x (ga (Awp zP ze zk zN y zQ) zQ)
 |n+1,.block i c,zQ=>hZ zP ze zk zN n c (fP i zQ)
 |_,c,zQ=>(c,zQ)
theorem tN (n:Nat):∀(c:Code) (Q:Exit->St->Prop),Awp P e k0 N (hZ P e k0 N n c Q).1 (hZ P e k0 N n c Q).2 st->Awp P e k0 N c Q st:=by
 induction n with
 |zero=>intro c Q h;cases c<;>exact h
 |succ n ih=>
  intro c Q h;cases c with
  |seq x y=>exact iH (ih _ _ h)
  |block i c=>exact gM (ih _ _ h)
  |_=>exact h
theorem awL {c x:Code} {Q':Exit->St->Prop} (hc:hZ P e k0 N 99 c Q=(x,Q')) (h:Awp P e k0 N x Q' st):Awp P e k0 N c Q st:=tN 99 c Q (by rw [hc];exact h)
def gz1 (n:Nat):Option (Nat×Bool):=if n=0 then none else some (n/2-1,n%2==1)
def gz:List Nat->List (Option (Nat×Bool))
 |[]=>[]
 |n::l=>gz1 n::gz l
theorem awR (I:List Nat) {id:Nat} {l:List Oper} {c:Code} {Q':Exit->St->Prop} (cd:List Nat) {gs:List (Option (Nat×Bool))} (h:AL P N I (Q' .normal) l gs st) (hgs:gz cd=gs:=by simp only [gz.eq_1,gz.eq_2,gz1.eq_1,seval,reduceIte];rfl) (hc:hZ P e k0 N 99 c Q=(.region id ops false,Q'):=by rfl) (hl:ops.toList=l:=by rfl) (hg:ba ops=gs:=by kernel_rfl) (hN:decide (N<1000000)=true:=by decide):Awp P e k0 N c Q st:=awL hc (jc I hl hg hN h)
theorem awT {c:Operand} {b x y:Code} {Q':Exit->St->Prop} (h:Awp P e k0 N x Q' st) (hb:hZ P e k0 N 99 b Q=(.cond c x y,Q'):=by rfl) (hc:ev st c= .val (.one (.lit (.bool true))):=by rfl):Awp P e k0 N b Q st:=awL hb (gb true hc (fun _=>h) (fun h=>by cases h))
theorem awF {c:Operand} {b x y:Code} {Q':Exit->St->Prop} (h:Awp P e k0 N y Q' st) (hb:hZ P e k0 N 99 b Q=(.cond c x y,Q'):=by rfl) (hc:ev st c= .val (.one (.lit (.bool false))):=by rfl):Awp P e k0 N b Q st:=awL hb (gb false hc (fun h=>by cases h) (fun _=>h))
theorem awK {c:Code} {Q':Exit->St->Prop} (h:Q' .normal st) (hb:hZ P e k0 N 99 c Q=(.skip,Q'):=by rfl):Awp P e k0 N c Q st:=awL hb (l9 h)
theorem awX {c:Code} {Q':Exit->St->Prop} (h:Q' .ret st) (hb:hZ P e k0 N 99 c Q=(.ret,Q'):=by rfl):Awp P e k0 N c Q st:=awL hb (oz h)
theorem awQ {c:Code} {i:Nat} {Q':Exit->St->Prop} (h:Q' (.exit i) st) (hb:hZ P e k0 N 99 c Q=(.exit i,Q'):=by rfl):Awp P e k0 N c Q st:=awL hb (ma h)
theorem ob {p q:Prop} (hq:q) (hp:p:=by first|omega|(simp only [List.length_cons];omega)|exact ⟨⟨by omega,by omega⟩,rfl⟩|rfl):p/\q:=⟨hp,hq⟩
def scq:List Nat->Sch->Sch
 |[],s=>s
 |n::l,s=> .cons (n/2) (n%2==1) (scq l s)
def ALn (P:Program) (N:Nat) (Q:St->Prop):List Oper->St->Prop
 |[],st=>Q st
 |o::os,st=>cO P N [] st o (ALn P N Q os)
theorem tO {Q:St->Prop}:ALn P N Q [] st=Q st:=rfl
theorem mS {Q:St->Prop} {o:Oper} {os:List Oper}:ALn P N Q (o::os) st=cO P N [] st o (ALn P N Q os):=rfl
theorem r7 {Q:St->Prop}:∀l:List Oper,ALn P N Q l=AL P N [] Q l (l.map fun _=>none)
 |[]=>by funext st;rfl
 |o::os=>by
  funext st;rw [mS,r7 os];rfl
theorem o6 {α β:Type}:∀(xs:List (Option β)) (l:List α),xs.all Option.isNone=true->l.length=xs.length->xs=l.map fun _=>(none:Option β)
 |[],[],_,_=>rfl
 |x::xs,a::l,h,hl=>by
  simp only [List.all_cons,Bool.and_eq_true,Option.isNone_iff_eq_none] at h;obtain ⟨rfl,h2⟩:=h;have e:=o6 xs l h2 (by simpa using hl);rw [List.map_cons];exact congrArg _ e
 |[],_::_,_,hl=>by simp at hl
 |_::_,[],_,hl=>by simp at hl
theorem awN {id:Nat} {l:List Oper} {c:Code} {Q':Exit->St->Prop} (h:ALn P N (Q' .normal) l st) (hc:hZ P e k0 N 99 c Q=(.region id ops false,Q'):=by rfl) (hl:ops.toList=l:=by rfl) (hg:(ba ops).all Option.isNone=true:=by kernel_rfl) (hN:decide (N<1000000)=true:=by decide):Awp P e k0 N c Q st:=
 awL hc (jc [] hl (o6 (ba ops) l hg (by rw [←hl];simp [ba])) hN (by rw [←r7];exact h))
def scT:Nat->Nat->Sch->Sch
 |_,0,s=>s
 |i,n+1,s=> .cons i true (scT (i+1) n s)
def zS:=And.intro (And.intro @tO @mS) (And.intro SS @ne_eq.{1})
theorem zT:type_of%zS:=zS
theorem awD (s:Sch) (cd:List Nat) {gs:List (Option (Nat×Bool))} {id:Nat} {r:SchO} {c:Code} {Q':Exit->St->Prop} (h:AT P N (Q' .normal) r st) (hgs:gz cd=gs:=by simp only [gz.eq_1,gz.eq_2,gz1.eq_1,seval,reduceIte];rfl) (hc:hZ P e k0 N 99 c Q=(.region id ops true,Q'):=by rfl) (hm:P.follows .mixedOrders=true:=by kernel_rfl)
 (hB:(Region.noSelect ops&&decide (s.len=ops.size)&&cM .any ops (fO ops) s (Array.replicate ops.size false))=true:=by kernel_rfl) (hg:ba ops=gs:=by kernel_rfl) (hr:SchO.mk ops gs s=some r:=by simp only [scq.eq_1,scq.eq_2,scT.eq_1,scT.eq_2,(id zS),seval];rfl) (hN:decide (N<1000000)=true:=by decide):Awp P e k0 N c Q st:=awL hc (pu hm s hB hg hr hN h)
theorem awS {zP:Program} {ze:En} {zk:Kx} {zN:Nat} {zs:St} {zQ:Exit->St->Prop} {zx zy:Code} (zh:Awp zP ze zk zN zx (ga (Awp zP ze zk zN zy zQ) zQ) zs):Awp zP ze zk zN (.seq zx zy) zQ zs:=iH zh
theorem awB {zP:Program} {ze:En} {zk:Kx} {zN:Nat} {zs:St} {zQ:Exit->St->Prop} {zi:Nat} {zc:Code} (zh:Awp zP ze zk zN zc (fP zi zQ) zs):Awp zP ze zk zN (.block zi zc) zQ zs:=gM zh
end
theorem tf0:ldT prog 48=some (true,3):=by kernel_rfl
theorem tf1:plT prog 48=some [(0,1),(1,1),(2,1)]:=by kernel_rfl
theorem tf2:zrT prog 48=some [.bool false,.string aD,.string aD]:=by kernel_rfl
theorem tf3:foT prog 48 0=some (0,4):=by kernel_rfl
theorem tf4:foT prog 48 1=some (1,9):=by kernel_rfl
theorem tf5:ldT prog 4=some (false,1):=by kernel_rfl
theorem tf6:ldT prog 9=some (false,1):=by kernel_rfl
theorem tf7:(prog).underlying 4=some .bool:=by kernel_rfl
theorem tf8:elT prog 136=some (90,1,24):=by kernel_rfl
theorem tf9:elT prog 41=some (94,15,200):=by kernel_rfl
theorem yg:foT prog 43 0=some (0,31):=by kernel_rfl
theorem yh:foT prog 43 1=some (1,40):=by kernel_rfl
theorem yi:foT prog 43 2=some (8,41):=by kernel_rfl
theorem yj:ldT prog 31=some (false,1):=by kernel_rfl
theorem yk:ldT prog 41=some (false,1):=by kernel_rfl
theorem tP:ldT prog 52=some (true,14):=by kernel_rfl
theorem yl:ldT prog 40=some (true,7):=by kernel_rfl
theorem ym:ldT prog 94=some (true,15):=by kernel_rfl
theorem yn:plT prog 94=some [(0,14),(14,1)]:=by kernel_rfl
theorem yo:zrT prog 90=some [.slice none 0 0]:=by kernel_rfl
theorem wO:zrT prog 40=some [.slice none 0 0,.slice none 0 0,.slice none 0 0,.slice none 0 0,.slice none 0 0,.int .i64 0,.bool false]:=by kernel_rfl
theorem yp:zrT prog 94=some [.int .i64 0,.int .i64 0,.int .i64 0,.int .i64 0,.int .i64 0,.int .i64 0,.bool false,.string aD,.string aD,.bool false,.string aD,.string aD,.slice none 0 0,.slice none 0 0,.slice none 0 0]:=by kernel_rfl
theorem zl:arT prog 61=some (4,22,1):=by kernel_rfl
theorem zm:elT prog 50=some (133,4,48):=by kernel_rfl
theorem zn:foT prog 133 0=some (0,48):=by kernel_rfl
theorem zo:foT prog 133 1=some (3,3):=by kernel_rfl
theorem zp:ldT prog 133=some (true,4):=by kernel_rfl
theorem yq:ldT prog 3=some (false,1):=by kernel_rfl
theorem yr:ldT prog 22=some (false,1):=by kernel_rfl
theorem zq:elT prog 61=none:=by kernel_rfl
theorem zr:plT prog 133=some [(0,3),(3,1)]:=by kernel_rfl
theorem yu:(prog).underlying 3=some (.int .i64):=by kernel_rfl
theorem yv:(prog).underlying 22=some (.int .u16):=by kernel_rfl
theorem zt:(prog).underlying 134=some (.int .u64):=by kernel_rfl
theorem zu:zrT prog 133=some [.bool false,.string aD,.string aD,.int .i64 0]:=by kernel_rfl
theorem zv:arT prog 23=some (5,22,1):=by kernel_rfl
theorem zw:arT prog 26=none:=by kernel_rfl
theorem yw:elT prog 26=some (23,5,10):=by kernel_rfl
theorem yy:elT prog 24=some (52,14,176):=by kernel_rfl
theorem zz:elT prog 49=some (84,2,16):=by kernel_rfl
theorem zA:foT prog 52 0=some (0,3):=by kernel_rfl
theorem zB:foT prog 52 2=some (2,3):=by kernel_rfl
theorem zC:foT prog 52 3=some (3,3):=by kernel_rfl
theorem yz:ldT prog 23=some (true,5):=by kernel_rfl
theorem zD:elT prog 23=none:=by kernel_rfl
theorem zE:plT prog 61=some [(0,1),(1,1),(2,1),(3,1)]:=by kernel_rfl
theorem zF:plT prog 52=some [(0,1),(1,1),(2,1),(3,1),(4,1),(5,1),(6,3),(9,3),(12,1),(13,1)]:=by kernel_rfl
theorem zG:plT prog 84=some [(0,1),(1,1)]:=by kernel_rfl
theorem zH:zrT prog 61=some [.int .u16 (0),.int .u16 (0),.int .u16 (0),.int .u16 (0)]:=by kernel_rfl
theorem yA:zrT prog 23=some [.int .u16 (0),.int .u16 (0),.int .u16 (0),.int .u16 (0),.int .u16 (0)]:=by kernel_rfl
theorem zI:zrT prog 52=some [.int .i64 0,.int .i64 0,.int .i64 0,.int .i64 0,.int .i64 0,.int .i64 0,.bool false,.string aD,.string aD,.bool false,.string aD,.string aD,.slice none 0 0,.slice none 0 0]:=by kernel_rfl
theorem zJ:zrT prog 84=some [.int .i64 0,.int .i64 0]:=by kernel_rfl
theorem zK:arT prog 44=none:=by kernel_rfl
theorem zL:arT prog 24=none:=by kernel_rfl
theorem zM:elT prog 44=some (27,1,8):=by kernel_rfl
theorem zO:ldT prog 27=some (false,1):=by kernel_rfl
theorem zR:plT prog 40=some [(0,2),(2,1),(3,1),(4,1),(5,1),(6,1)]:=by kernel_rfl
theorem zU:plT prog 43=some [(0,1),(1,7),(8,1)]:=by kernel_rfl
theorem zV:zrT prog 27=some [.pointer none]:=by kernel_rfl
theorem zW:zrT prog 43=some [.pointer none,.slice none 0 0,.slice none 0 0,.slice none 0 0,.slice none 0 0,.slice none 0 0,.int .i64 0,.bool false,.slice none 0 0]:=by kernel_rfl
end Go.Proofs.YtclkgcigacbmiaaGreatDoor
