/- guarantee.positive, insolvencyref17.amount, insolvencylaw0: Whole, Ratio, Amount, Few, FewRats: walked. -/
import Derived.Test.YtcgpghifhehlhaaGreatDoorVal1M
import Derived.Test.YtcgpghifhehlhaaGreatDoorLawM
import Derived.Test.YtcgpghifhehlhaaGreatDoorAbTM
set_option linter.unusedVariables false
set_option maxRecDepth 100000
set_option linter.unusedSimpArgs false
set_option linter.defProp false
set_option linter.unusedSectionVars false
namespace Go.Proofs.YtcgpghifhehlhaaGreatDoor
open Go.RowKit Go.Proofs.Tryz
theorem vn:qOf gZ=0:=by rw [ln,dK]
theorem zK:sB 1 gZ:=⟨by decide,by decide⟩
theorem tF (q:Rat):tj q 0=fA q:=rfl
theorem gG (r:GRat) (m:Nat) (w:World) (h:sB m r) (hm:m<=100000000000) (hm0:0<m):
  Calls prog 69 #[aN r] w fun e w'=>e= .returned (aN (enc (fA (qOf r))))/\Below w.heap.size w w':=by
 have M:=hid (fun w=>u0 r gZ m 1 w h zK hm (by decide) hm0 (by decide));rw [vn,tF] at M;have HX:=hid (Bx2.new w r gZ);generalize enc (fA (qOf r))=a at *
 clear h hm hm0;unfold aN at M;unfold aN;go_enter func69,ntmps69
 go_wp2_with fail
 refine Calls.mono (M.out _) ?_;rintro e w1 ⟨rfl,hb1⟩;have hx:=HX.out.next hb1;obtain ⟨t0,t1,t2,t3,t4⟩:=hx.2.1.facts;go_wp2
 refine bC (hx.ret a).1 (fun W' c0 c1 c2=>by simp [results,Tryz.results69,go_sem,c0,c1,c2]) rfl ⟨rfl,(hx.ret a).2⟩
theorem jX (n:Int) (w:World) (h0: -9223372036854775808<=n) (h1:n<=9223372036854775807):Calls prog 12 #[.int .i64 n] w fun e w'=>e= .returned (aN (enc (n:Rat)))/\Below w.heap.size w w':=by
 have I:=hid (fun w=>uU n w h0 h1);have HX:=hid (Bx1.new w);generalize enc (n:Rat)=a at *
 unfold aN at I;unfold aN;go_enter func12,ntmps12
 go_wp2_with fail
 refine Calls.mono (I.out _) ?_;rintro e w1 ⟨rfl,hb1⟩;have hx:=HX.out.next hb1;obtain ⟨t0,t1,t2,t3,t4⟩:=hx.1.facts;go_wp2
 refine bC (hx.ret a).1 (fun W' c0 c1 c2=>by simp [results,Tryz.results12,go_sem,c0,c1,c2]) rfl ⟨rfl,(hx.ret a).2⟩
theorem vo (a b:Nat) (w:World) (ha:a<=9223372036854775807) (hb:b<=9223372036854775807) (hd:0<b):
  Calls prog 63 #[.int .i64 a,.int .i64 b] w fun e w'=>e= .returned (aN (enc (mkRat (a:Int) b)))/\Below w.heap.size w w':=by
 have F:=hid (fun w=>nG a b w ha hb hd);have HX:=hid (Bx1.new w);generalize enc (mkRat (a:Int) b)=q at *
 unfold aN at F;unfold aN;go_enter func63,ntmps63
 go_wp2_with fail
 refine Calls.mono (F.out _) ?_;rintro e w1 ⟨rfl,hb1⟩;have hx:=HX.out.next hb1;obtain ⟨t0,t1,t2,t3,t4⟩:=hx.1.facts;have S:=hid (hx.1.put q);have hbx:=hid (dS hx.2 (Nat.le_refl _) q);go_wp2
 refine bC (Blk3.alloc S.out _) (fun W' c0 c1 c2=>by simp [results,Tryz.results63,go_sem,c0,c1,c2]) rfl ⟨rfl,hbx.out.alloc (Below.size hbx.out) _⟩
theorem qR (x:Nat) (w:World) (hx:x<65536):Calls prog 28 #[.int .u16 x] w fun e w'=>e= .returned (aN (enc (cY x)))/\Below w.heap.size w w':=by
 have HX:=hid (Bx1.new w);by_cases h0:x%5=0
 ·have e0:((x:Int)%5==0)=true:=by simp;omega
  have R:=vo (x/5%23) (1+x/115%6);have hq:cY x=mkRat ((x/5%23:Nat):Int) (1+x/115%6):=by unfold cY;rw [if_pos h0]
  rw [←hq] at R;rw [show (((x/5%23:Nat)):Int)=(x:Int)/5%23 by omega,show (((1+x/115%6:Nat)):Int)=1+(x:Int)/115%6 by omega] at R;have RR:=hid (fun w=>R w (by omega) (by omega) (by omega));generalize enc (cY x)=q at *
  clear R hq;unfold aN at RR;unfold aN;go_enter func28,ntmps28
  go_wp2_with fail
  refine Calls.mono (RR.out _) ?_;rintro e w1 ⟨rfl,hb1⟩;have hx:=HX.out.next hb1;obtain ⟨t0,t1,t2,t3,t4⟩:=hx.1.facts;go_wp2
  refine bC (hx.ret q).1 (fun W' c0 c1 c2=>by simp [results,Tryz.results28,go_sem,c0,c1,c2]) rfl ⟨rfl,(hx.ret q).2⟩
 have e0:((x:Int)%5==0)=false:=by simp;omega
 by_cases h1:x%5=1
 ·have e1:((x:Int)%5==1)=true:=by simp;omega
  have R:=jX (10*((x:Int)/5%4));have hq:cY x=(((10*((x:Int)/5%4)):Int):Rat):=by unfold cY;rw [if_neg h0,if_pos h1];congr 1
  rw [←hq] at R;have RR:=hid (fun w=>R w (by omega) (by omega));generalize enc (cY x)=q at *
  clear R hq;unfold aN at RR;unfold aN;go_enter func28,ntmps28
  go_wp2_with fail
  refine Calls.mono (RR.out _) ?_;rintro e w1 ⟨rfl,hb1⟩;have hx:=HX.out.next hb1;obtain ⟨t0,t1,t2,t3,t4⟩:=hx.1.facts;go_wp2
  refine bC (hx.ret q).1 (fun W' c0 c1 c2=>by simp [results,Tryz.results28,go_sem,c0,c1,c2]) rfl ⟨rfl,(hx.ret q).2⟩
 have e1:((x:Int)%5==1)=false:=by simp;omega
 have R:=jX ((x:Int)/5%13);have hq:cY x=((((x:Int)/5%13):Int):Rat):=by unfold cY;rw [if_neg h0,if_neg h1];congr 1
 rw [←hq] at R;have RR:=hid (fun w=>R w (by omega) (by omega));generalize enc (cY x)=q at *
 clear R hq;unfold aN at RR;unfold aN;go_enter func28,ntmps28
 go_wp2_with fail
 refine Calls.mono (RR.out _) ?_;rintro e w1 ⟨rfl,hb1⟩;have hx:=HX.out.next hb1;obtain ⟨t0,t1,t2,t3,t4⟩:=hx.1.facts;go_wp2
 refine bC (hx.ret q).1 (fun W' c0 c1 c2=>by simp [results,Tryz.results28,go_sem,c0,c1,c2]) rfl ⟨rfl,(hx.ret q).2⟩
end Go.Proofs.YtcgpghifhehlhaaGreatDoor
namespace Go.Proofs.YtcgpghifhehlhaaGreatDoor
open Go Go.RowKit Go.Proofs.Tryz
structure T3 where
 a:List GPart
 b:List GPart
 c:List GPart
def T3.put (T:T3) (x:Nat) (p:GPart):T3:=if x=1 then ⟨T.a++[p],T.b,T.c⟩ else if x=2 then ⟨T.a,T.b++[p],T.c⟩ else ⟨T.a,T.b,T.c++[p]⟩
noncomputable def bgP (p:N3) (i:Nat):GPart:=if p.c/2^i%2=1 then ⟨i,true,enc (((p.c/64%9:Nat):Int):Rat)⟩ else ⟨i,false,gZ⟩
def bgB (p:N3) (i:Nat):Nat:=p.b/4^i%4
noncomputable def bgS (agrs:List cw) (p:N3) (i:Nat) (T:T3):T3:=if bgB p i=0 then T else if frA i agrs=true then T.put (bgB p i) (bgP p i) else T
noncomputable def bgL (agrs:List cw) (p:N3):List GClaim->Nat->T3->T3
 |[],_,T=>T
 |_::l,i,T=>bgL agrs p l (i+1) (bgS agrs p i T)
noncomputable def bgT (p:N3) (T:T3):T3:=if p.a/8%4=0 then T.put (p.a/32%3+1) ⟨-1,true,enc (((p.a/96%7:Nat):Int):Rat)⟩ else T
noncomputable def bgN (e:GEst) (p:N3):cw:=[(bgT p (bgL e.agrs p e.claims 0 ⟨[],[],[]⟩)).a,(bgT p (bgL e.agrs p e.claims 0 ⟨[],[],[]⟩)).b,(bgT p (bgL e.agrs p e.claims 0 ⟨[],[],[]⟩)).c]
theorem kk (n:Nat) (h:n<65536):IntKind.u16.wrap (n:Int)=n:=by simp [IntKind.wrap,IntKind.bits,IntKind.signed];omega
theorem qS (n:Nat) (h:n<18446744073709551616):IntKind.u64.wrap (n:Int)=n:=by simp [IntKind.wrap,IntKind.bits,IntKind.signed];omega
theorem wri (n:Nat) (h:n<9223372036854775808):IntKind.i64.wrap (n:Int)=n:=kr ((rT _).2 ⟨by omega,by omega⟩)
theorem zL (n j:Nat) (hn:n<65536) (hj:j<=64):IntKind.i64.wrap ((BitVec.ofInt IntKind.i64.bits ((n:Int).fdiv (2^min j IntKind.i64.bits))&&&BitVec.ofInt IntKind.i64.bits 3).toNat:Int)=((n/2^j%4:Nat):Int):=by
 have h1:(BitVec.ofInt 64 ((n:Int).fdiv (2^min j 64))&&&BitVec.ofInt 64 3).toNat=n/2^j%4:=by
  rw [Nat.min_eq_left hj];have h1:(n:Int).fdiv (2^j)=((n/2^j:Nat):Int):=by
   have:(2:Int)^j=((2^j:Nat):Int):=by norm_cast
   rw [this,Int.fdiv_eq_ediv_of_nonneg _ (Int.natCast_nonneg _)];norm_cast
  have h2:n/2^j<65536:=Nat.lt_of_le_of_lt (Nat.div_le_self _ _) hn;rw [h1,BitVec.ofInt_natCast,BitVec.toNat_and,BitVec.toNat_ofNat,Nat.mod_eq_of_lt (a:=n/2^j) (by omega)];exact Nat.and_two_pow_sub_one_eq_mod (n:=2) _
 have h3:IntKind.i64.bits=64:=rfl;rw [h3,h1];exact wri _ (by omega)
theorem vp (n j:Nat) (hn:n<65536) (hj:j<=64):IntKind.i64.wrap ((BitVec.ofInt IntKind.i64.bits ((n:Int).fdiv (2^min j IntKind.i64.bits))&&&BitVec.ofInt IntKind.i64.bits 1).toNat:Int)=((n/2^j%2:Nat):Int):=by
 have h1:(BitVec.ofInt 64 ((n:Int).fdiv (2^min j 64))&&&BitVec.ofInt 64 1).toNat=n/2^j%2:=by
  rw [Nat.min_eq_left hj];have h1:(n:Int).fdiv (2^j)=((n/2^j:Nat):Int):=by
   have:(2:Int)^j=((2^j:Nat):Int):=by norm_cast
   rw [this,Int.fdiv_eq_ediv_of_nonneg _ (Int.natCast_nonneg _)];norm_cast
  have h2:n/2^j<65536:=Nat.lt_of_le_of_lt (Nat.div_le_self _ _) hn;rw [h1,BitVec.ofInt_natCast,BitVec.toNat_and,BitVec.toNat_ofNat,Nat.mod_eq_of_lt (a:=n/2^j) (by omega)];exact Nat.and_two_pow_sub_one_eq_mod (n:=1) _
 have h3:IntKind.i64.bits=64:=rfl;rw [h3,h1];exact wri _ (by omega)
theorem pv (k:Nat):2^(2*k)=4^k:=by rw [Nat.pow_mul]
def cN3 (p:N3):List C:=[.lit (.int .u16 p.a),.lit (.int .u16 p.b),.lit (.int .u16 p.c)]
theorem fG (n:Int) (h0: -9223372036854775808<=n) (h1:n<=9223372036854775807):ch prog 12 [.one (.lit (.int .i64 n))] (.val (.agg (cS (enc (n:Rat))))):=
 eE (iv func12 (by decide) (by kernel_rfl)) [.int .i64 n] (aN (enc (n:Rat))) fun w=>jX n w h0 h1
theorem fL (x:Nat) (hx:x<65536):ch prog 28 [.one (.lit (.int .u16 x))] (.val (.agg (cS (enc (cY x))))):=
 eE (iv func28 (by decide) (by kernel_rfl)) [.int .u16 x] (aN (enc (cY x))) fun w=>qR x w hx
theorem nR (agrs:List cw) (p:N3) (i:Nat) (T:T3):(bgS agrs p i T).a.length<=T.a.length+1/\(bgS agrs p i T).b.length<=T.b.length+1/\(bgS agrs p i T).c.length<=T.c.length+1:=by
 unfold bgS T3.put;repeat' split
 all_goals (simp)
def F4:=And.intro zS (And.intro yB (And.intro tf0 (And.intro tf3 (And.intro tf4 (And.intro jS (And.intro tf5 (And.intro jT (And.intro tf7 (And.intro yC (And.intro yD (And.intro pi (And.intro jU (And.intro tu (And.intro tB (And.intro u4 (And.intro mf (And.intro xi (And.intro yE (And.intro yF (And.intro zw (And.intro zz (And.intro u9 (And.intro yG (And.intro zA (And.intro zB (And.intro u5 (pj)))))))))))))))))))))))))))
theorem F5:type_of%F4:=F4
theorem pw {α:Type} {f:α->List C} {sz:Nat} (hf:∀a,(f a).length=sz) (l:List α) (k:Nat) (x:α) (h:k<l.length):spl (ar f l) (k*sz) (f x)=ar f (l.set k x):=by
 have h1:ar f l=ar f (l.take k)++(f l[k]++ar f (l.drop (k+1))):=by
  conv=>lhs;rw [←List.take_append_drop k l,aV,List.drop_eq_getElem_cons h,aY]
 have h2:ar f (l.set k x)=ar f (l.take k)++(f x++ar f (l.drop (k+1))):=by
  have hk:k<(l.set k x).length:=by simpa using h
  conv=>lhs;rw [←List.take_append_drop k (l.set k x),aV,List.drop_eq_getElem_cons hk,aY]
  rw [List.getElem_set_self,List.drop_set];have:(l.set k x).take k=l.take k:=by rw [List.take_set];exact List.set_eq_of_length_le (by rw [List.length_take];omega)
  rw [this];simp
 have h3:(ar f (l.take k)).length=k*sz:=by rw [aS hf,List.length_take,Nat.min_eq_left (Nat.le_of_lt h)]
 rw [h1,h2,←h3];exact nJ _ _ _ _ (by rw [hf,hf])
structure OS where
 k:Nat
 h:Int
 l:List Leg
def owS (debts:List GDebt) (p:N3) (i c:Nat) (y:GClaim) (s:OS):OS:=
 if tkD i c debts=true then s else if (4:Int)<=(s.l.length:Int) then s else
 if p.a/2^(s.k%16)%2=1 then (if (s.l.length:Int)=0 then ⟨s.k+1,y.holder,s.l++[((i:Int),(c:Int))]⟩ else if y.holder=s.h then ⟨s.k+1,y.holder,s.l++[((i:Int),(c:Int))]⟩ else ⟨s.k+1,s.h,s.l⟩) else ⟨s.k+1,s.h,s.l⟩
def owC (debts:List GDebt) (p:N3) (i:Nat):List GClaim->Nat->OS->OS
 |[],_,s=>s
 |y::l,c,s=>owC debts p i l (c+1) (owS debts p i c y s)
def owE (debts:List GDebt) (p:N3):List GEst->Nat->OS->OS
 |[],_,s=>s
 |e::l,i,s=>owE debts p l (i+1) (owC debts p i e.claims 0 s)
theorem xV (debts:List GDebt) (p:N3) (i c:Nat) (y:GClaim) (s:OS):(owS debts p i c y s).k<=s.k+1/\(s.l.length<=4->(owS debts p i c y s).l.length<=4):=by
 unfold owS;split
 ·exact ⟨by omega,id⟩
 split
 ·exact ⟨by omega,id⟩
 repeat' split
 all_goals first|(simp;done)|(simp;omega)
def swp (l:List Leg) (i j:Nat):List Leg:=(l.set i (l.getD j (0,0))).set j (l.getD i (0,0))
def rvL (l:List Leg):Nat->List Leg
 |0=>l
 |m+1=>swp (rvL l m) m (l.length-1-m)
theorem jC (l:List Leg):∀m,(rvL l m).length=l.length
 |0=>rfl
 |m+1=>by simp [rvL,swp,jC l m]
noncomputable def owN (g:GGrp) (p:N3):GDebt:=⟨enc (cY p.c),if p.b%2=1 then rvL (owE g.debts p g.ests 0 ⟨0,0,[]⟩).l ((owE g.debts p g.ests 0 ⟨0,0,[]⟩).l.length/2) else (owE g.debts p g.ests 0 ⟨0,0,[]⟩).l⟩
def F6:=And.intro zS (And.intro yB (And.intro pn (And.intro nK (And.intro u7 (And.intro jS (And.intro pk (And.intro nL (And.intro tv (And.intro po (And.intro tw (And.intro jT (And.intro nM (And.intro pl (And.intro jU (And.intro pm (And.intro nN (And.intro tA (And.intro vd (And.intro xe (And.intro qO (And.intro xf (And.intro hZ (And.intro yE (And.intro yF (And.intro zZ (And.intro zC (And.intro u9 (And.intro yG (And.intro zA (And.intro tC (And.intro xg (xh))))))))))))))))))))))))))))))))
theorem F7:type_of%F6:=F6
section
variable {P : Program} {e : En} {k0 : Kx} {N : Nat} {st : St} {a : Act} {w : World} {Q : Exit → St → Prop} {c : Code}
theorem vt (nm:Nat) {B:Blk} (cs':List C) (hB:st.H nm=some B) (hsz:B.sz≠0) (hl:cs'.length=B.cs.length) (h:∀(κ:Kx) (vs:List Value),denVs κ vs B.cs->denVs κ vs cs'):
  Wk e k0 N st ⟨st.tm,up st.H nm (some {B with cs:=cs'}),st.nx,st.nb⟩:=by
 intro a w hr;obtain ⟨σ,h1,h2,h3⟩:=hr.ex;obtain ⟨g1,g2,xs,g3,g4⟩:=h1.rowOf hB (.inl hsz);obtain ⟨m1,m2⟩:=h1.upd (w':=w) hB ⟨rfl,rfl,rfl,Nat.le_refl _,fun _ _ _=>rfl⟩ (cs:=cs') hsz (by rw [hl];exact g2) g3 (h _ _ g4);exact ⟨⟨_,m1,fun t'=>dz m2 (h2 t'),h3.trans m2⟩,hr.df,hr.sz⟩
end
theorem jY {κ:Kx} {v:Value} (sz:Nat) (h:den κ v (.lit (.slice none 0 0))):den κ v (.sh sz 0 []):=by
 simp only [den] at h ⊢;exact ⟨none,0,h.1,Nat.le_refl _,by unfold maxLen;omega,fun _=>rfl,by simp,.inl trivial⟩
theorem aW {κ:Kx} {vs:List Value} {c:C} {cs:List C} (h:denVs κ vs (c::cs)):∃v vs',vs=v::vs'/\den κ v c/\denVs κ vs' cs:=by
 cases vs with
 |nil=>exact h.elim
 |cons v vs=>exact ⟨v,vs,rfl,h.1,h.2⟩
theorem vu {l m:List (GEst×Nat)} (i:Nat) (h:l.map (·.1)=m.map (·.1)):cg e6 l i=cg e6 m i:=by
 induction l generalizing m i with
 |nil=>
  cases m with
  |nil=>rfl
  |cons q m=>simp at h
 |cons p l ih=>
  cases m with
  |nil=>simp at h
  |cons q m=>
   simp only [List.map_cons,List.cons.injEq] at h;simp only [cg,h.1,ih (i+1) h.2,e6]
theorem iD {α:Type} {f:α->List C} {sz:Nat} (hf:∀a,(f a).length=sz) (l:List α) (k o:Nat) (ds:List C) (x:α) (h:k<l.length) (ho:o+ds.length<=sz) (hx:spl (f l[k]) o ds=f x):spl (ar f l) (k*sz+o) ds=ar f (l.set k x):=by
 have h1:ar f l=ar f (l.take k)++(f l[k]++ar f (l.drop (k+1))):=by
  conv=>lhs;rw [←List.take_append_drop k l,aV,List.drop_eq_getElem_cons h,aY]
 have h2:ar f (l.set k x)=ar f (l.take k)++(f x++ar f (l.drop (k+1))):=by
  have hk:k<(l.set k x).length:=by simpa using h
  conv=>lhs;rw [←List.take_append_drop k (l.set k x),aV,List.drop_eq_getElem_cons hk,aY]
  rw [List.getElem_set_self,List.drop_set];have:(l.set k x).take k=l.take k:=by rw [List.take_set];exact List.set_eq_of_length_le (by rw [List.length_take];omega)
  rw [this];simp
 have h3:(ar f (l.take k)).length=k*sz:=by rw [aS hf,List.length_take,Nat.min_eq_left (Nat.le_of_lt h)]
 have hlen:=hf l[k];have e1:f l[k]=(f l[k]).take o++(((f l[k]).drop o).take ds.length++(f l[k]).drop (o+ds.length)):=by
  rw [←List.drop_drop,List.take_append_drop,List.take_append_drop]
 have e2:f x=(f l[k]).take o++(ds++(f l[k]).drop (o+ds.length)):=by
  rw [←hx];conv=>lhs;rw [e1]
  have:o=((f l[k]).take o).length:=by rw [List.length_take,hlen];omega
  conv=>lhs;arg 2;rw [this]
  exact nJ _ _ _ _ (by rw [List.length_take,List.length_drop,hlen];omega)
 have e4:k*sz+o=(ar f (l.take k)++(f l[k]).take o).length:=by
  rw [List.length_append,h3,List.length_take,hlen];omega
 have e3:ar f l=(ar f (l.take k)++(f l[k]).take o)++(((f l[k]).drop o).take ds.length++((f l[k]).drop (o+ds.length)++ar f (l.drop (k+1)))):=by
  conv=>lhs;rw [h1,e1]
  simp only [List.append_assoc]
 rw [e3,e4,nJ _ _ _ _ (by rw [List.length_take,List.length_drop,hlen];omega),h2,e2];simp only [List.append_assoc]
noncomputable def fM (size:Nat) (es:List GEst) (p:N3):List GEst:=
 if ((es.getD (p.a%size) bM).agrs.length:Int)<2 then es.set (p.a%size) {es.getD (p.a%size) bM with agrs:=(es.getD (p.a%size) bM).agrs++[bgN (es.getD (p.a%size) bM) p]} else es
noncomputable def fN (es:List GEst) (ds:List GDebt) (d:N3):List GDebt:=if (ds.length:Int)<3 then ds++[owN ⟨es,ds⟩ d] else ds
noncomputable def iJ (n:Nat) (cash:List Nat) (list:List N4) (pools:List N3):List GEst:=pools.foldl (fM (1+n%4)) (list.foldl (aJ (1+n%4)) ((List.range (1+n%4)).map (cZ cash)))
noncomputable def vz (n:Nat) (cash:List Nat) (list:List N4) (pools debts:List N3):GGrp:=⟨iJ n cash list pools,debts.foldl (fN (iJ n cash list pools)) []⟩
def okB (e:GEst):Prop:=e.claims.length<=6/\e.agrs.length<=2/\∀a∈e.agrs,a.length<=3/\∀t∈a,t.length<=7
theorem tG (T:T3) (x:Nat) (p:GPart) (n:Nat) (h:T.a.length<=n/\T.b.length<=n/\T.c.length<=n):(T.put x p).a.length<=n+1/\(T.put x p).b.length<=n+1/\(T.put x p).c.length<=n+1:=by
 unfold T3.put;obtain ⟨h1,h2,h3⟩:=h;repeat' split
 all_goals (simp only [List.length_append,List.length_cons,List.length_nil];omega)
theorem rW (agrs:List cw) (p:N3):∀(l:List GClaim) (i:Nat) (T:T3) (n:Nat),(T.a.length<=n/\T.b.length<=n/\T.c.length<=n)->(bgL agrs p l i T).a.length<=n+l.length/\(bgL agrs p l i T).b.length<=n+l.length/\(bgL agrs p l i T).c.length<=n+l.length
 |[],_,_,_,h=>h
 |_::l,i,T,n,h=>by
  have h1:=nR agrs p i T;have:=rW agrs p l (i+1) (bgS agrs p i T) (n+1) (by omega);simp only [bgL,List.length_cons];omega
theorem vA (e:GEst) (p:N3) (h:e.claims.length<=6):(bgN e p).length<=3/\∀t∈bgN e p,t.length<=7:=by
 refine ⟨by simp [bgN],fun t ht=>?_⟩;have h1:=rW e.agrs p e.claims 0 ⟨[],[],[]⟩ 0 (by simp);have h2:(bgT p (bgL e.agrs p e.claims 0 ⟨[],[],[]⟩)).a.length<=7/\(bgT p (bgL e.agrs p e.claims 0 ⟨[],[],[]⟩)).b.length<=7/\(bgT p (bgL e.agrs p e.claims 0 ⟨[],[],[]⟩)).c.length<=7:=by
  unfold bgT;split
  ·have:=tG (bgL e.agrs p e.claims 0 ⟨[],[],[]⟩) (p.a/32%3+1) ⟨-1,true,enc (((p.a/96%7:Nat):Int):Rat)⟩ 6 (by omega);exact this
  omega
 simp only [bgN,List.mem_cons,List.not_mem_nil,or_false] at ht;rcases ht with rfl|rfl|rfl
 ·exact h2.1
 ·exact h2.2.1
 exact h2.2.2
theorem yJ:okB bM:=⟨by simp [bM],by simp [bM],by simp [bM]⟩
theorem ky {Pr:GEst->Prop} {es:List GEst} (h:∀e∈es,Pr e) (h0:Pr bM) (i:Nat):Pr (es.getD i bM):=by
 rw [List.getD_eq_getElem?_getD];cases hx:es[i]? with
 |none=>exact h0
 |some e=>exact h e (List.mem_of_getElem? hx)
theorem nS {Pr:GEst->Prop} {es:List GEst} (h:∀e∈es,Pr e) (i:Nat) {x:GEst} (hx:Pr x):∀e∈es.set i x,Pr e:=fun e he=>by
 rcases List.mem_or_eq_of_mem_set he with h1|rfl
 ·exact h e h1
 exact hx
theorem eX (size:Nat) (es:List GEst) (p:N3) (h:∀e∈es,okB e):∀e∈fM size es p,okB e:=by
 unfold fM;split
 ·rename_i hlt;have h0:=ky h yJ (p.a%size);generalize es.getD (p.a%size) bM=e at *
  refine nS h _ ⟨h0.1,by simp only [List.length_append,List.length_cons,List.length_nil];omega,fun a ha=>?_⟩;rcases List.mem_append.1 ha with h1|h1
  ·exact h0.2.2 a h1
  obtain rfl:a=bgN e p:=by simpa using h1
  exact vA e p h0.1
 exact h
theorem nT (size:Nat) (es:List GEst) (p:N3):(fM size es p).length=es.length:=by unfold fM;split<;>simp
theorem kl (size:Nat) (es:List GEst) (x:N4):(aJ size es x).length=es.length:=by unfold aJ;split<;>simp
def okC (e:GEst):Prop:=e.claims.length<=6/\e.agrs=[]
theorem bN (size:Nat) (es:List GEst) (x:N4) (h:∀e∈es,okC e):∀e∈aJ size es x,okC e:=by
 unfold aJ;split
 ·exact h
 rename_i hlt;have h0:=ky h (show okC bM from ⟨by simp [bM],rfl⟩) (x.a%size);generalize es.getD (x.a%size) bM=e at *
 exact nS h _ ⟨by simp only [List.length_append,List.length_cons,List.length_nil];omega,h0.2⟩
theorem rX (debts:List GDebt) (p:N3) (i:Nat):∀(l:List GClaim) (c:Nat) (s:OS),s.l.length<=4->(owC debts p i l c s).l.length<=4
 |[],_,_,h=>h
 |y::l,c,s,h=>rX debts p i l (c+1) _ ((xV debts p i c y s).2 h)
theorem rY (debts:List GDebt) (p:N3):∀(l:List GEst) (i:Nat) (s:OS),s.l.length<=4->(owE debts p l i s).l.length<=4
 |[],_,_,h=>h
 |e::l,i,s,h=>rY debts p l (i+1) _ (rX debts p i e.claims 0 s h)
theorem rZ (g:GGrp) (p:N3):(owN g p).legs.length<=4:=by
 have:=rY g.debts p g.ests 0 ⟨0,0,[]⟩ (by simp);unfold owN;dsimp only;split
 ·rw [jC];exact this
 exact this
theorem py (es:List GEst) (ds:List GDebt) (d:N3) (h:∀x∈ds,x.legs.length<=4) (hl:ds.length<=3):(∀x∈fN es ds d,x.legs.length<=4)/\(fN es ds d).length<=3:=by
 unfold fN;split
 ·refine ⟨fun x hx=>?_,by simp only [List.length_append,List.length_cons,List.length_nil];omega⟩;rcases List.mem_append.1 hx with h1|h1
  ·exact h x h1
  obtain rfl:x=owN ⟨es,ds⟩ d:=by simpa using h1
  exact rZ _ _
 exact ⟨h,hl⟩
def vB (n:Nat):List C:=[.lit (.int .u16 n)]
theorem vD (n:Nat):(vB n).length=1:=rfl
def cN4 (x:N4):List C:=[.lit (.int .u16 x.a),.lit (.int .u16 x.b),.lit (.int .u16 x.c),.lit (.int .u16 x.d)]
theorem r7 (x:N4):(cN4 x).length=4:=rfl
theorem nU (x:N3):(cN3 x).length=3:=rfl
end Go.Proofs.YtcgpghifhehlhaaGreatDoor
