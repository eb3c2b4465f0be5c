/- guarantee.positive, insolvencyref17.amount, insolvencylaw0: Whole, Ratio, Amount, Few, FewRats: walked. -/
import Derived.Test.YtokmkopihhnggaaGreatDoorVal1M
import Derived.Test.YtokmkopihhnggaaGreatDoorWp8M
import Derived.Test.YtokmkopihhnggaaGreatDoorAbTM
set_option linter.unusedVariables false
set_option linter.unusedSimpArgs false
set_option linter.unusedSectionVars false
namespace Go.Proofs.YtokmkopihhnggaaGreatDoor
open Go.RowKit Go.Proofs.Tryz
theorem mZ:qOf gZ=0:=by rw [fZ,ci]
theorem C6:sB 1 gZ:=⟨by decide,by decide⟩
theorem C7 (q:Rat):xq (enc q)=enc (xy q):=by
 unfold xq xy;have e:((enc q).neg=true)=(q<0):=by rw [show (enc q).neg=bc q from rfl,ir]
 simp only [e];split
 ·exact fZ
 rfl
theorem xV (r:GRat) (m:Nat) (w:World) (h:sB m r) (hm:m<=100000000000):
  Calls prog 148 #[aF r] w fun e w'=>e= .returned (aF (enc (xy (qOf r))))/\Below w.heap.size w w':=by
 have F:=hid (fun w=>pj r w (by have:=h.1;omega) (by have:=h.2;omega));have P:=hid (fun w=>qN (enc (qOf r)) w);rw [C7] at P;have HX:=hid (Bx2.new w r gZ);generalize enc (xy (qOf r))=a at *
 generalize enc (qOf r)=b at *
 clear h hm;unfold aF at F P;unfold aF;go_enter func148,ntmps148
 go_wp2_with fail
 refine Calls.mono (F.out _) ?_;rintro e w1 ⟨rfl,hb1⟩;have hx:=HX.out.next hb1;go_wp2_with fail
 refine Calls.mono (P.out _) ?_;rintro e w2 ⟨rfl,hb2⟩;replace hx:=hx.next hb2;obtain ⟨t0,t1,t2,t3,t4⟩:=hx.2.1.facts;go_wp2
 refine bw (hx.ret a).1 (fun W' c0 c1 c2=>by simp [results,Tryz.results148,go_sem,c0,c1,c2]) rfl ⟨rfl,(hx.ret a).2⟩
theorem C8 (a b:Nat) (w:World) (ha:a<=9223372036854775807) (hb:b<=9223372036854775807) (hd:0<b):
  Calls prog 40 #[.int .i64 a,.int .i64 b] w fun e w'=>e= .returned (aF (enc (mkRat (a:Int) b)))/\Below w.heap.size w w':=by
 have F:=hid (fun w=>tq a b w ha hb hd);have HX:=hid (Bx1.new w);generalize enc (mkRat (a:Int) b)=q at *
 unfold aF at F;unfold aF;go_enter func40,ntmps40
 go_wp2_with fail
 refine Calls.mono (F.out _) ?_;rintro e w1 ⟨rfl,hb1⟩;have hx:=HX.out.next hb1;obtain ⟨t0,t1,t2,t3,t4⟩:=hx.1.facts;have S:=hid (hx.1.put q);have hbx:=hid (iu hx.2 (Nat.le_refl _) q);go_wp2
 refine bw (Blk3.alloc S.out _) (fun W' c0 c1 c2=>by simp [results,Tryz.results40,go_sem,c0,c1,c2]) rfl ⟨rfl,hbx.out.alloc (Below.size hbx.out) _⟩
end Go.Proofs.YtokmkopihhnggaaGreatDoor
namespace Go.Proofs.YtokmkopihhnggaaGreatDoor
open Go Go.RowKit Go.Proofs.Tryz
structure T3 where
 a:List GPart
 b:List GPart
 c:List GPart
theorem dP {α:Type} {f:α->List C} {sz:Nat} (hf:∀a,(f a).length=sz) (l:List α) (k:Nat) (x:α) (h:k<l.length):spl (aA f l) (k*sz) (f x)=aA f (l.set k x):=by
 have h1:aA f l=aA f (l.take k)++(f l[k]++aA f (l.drop (k+1))):=by
  conv=>lhs;rw [←List.take_append_drop k l,fQ,List.drop_eq_getElem_cons h,cf]
 have h2:aA f (l.set k x)=aA f (l.take k)++(f x++aA f (l.drop (k+1))):=by
  have hk:k<(l.set k x).length:=by simpa using h
  conv=>lhs;rw [←List.take_append_drop k (l.set k x),fQ,List.drop_eq_getElem_cons hk,cf]
  rw [List.getElem_set_self,List.drop_set];have:(l.set k x).take k=l.take k:=by rw [List.take_set];exact List.set_eq_of_length_le (by rw [List.length_take];omega)
  rw [this];simp
 have h3:(aA f (l.take k)).length=k*sz:=by rw [bo hf,List.length_take,Nat.min_eq_left (Nat.le_of_lt h)]
 rw [h1,h2,←h3];exact tt _ _ _ _ (by rw [hf,hf])
structure OS where
 k:Nat
 h:Int
 l:List Leg
section
variable {P : Program} {e : En} {k0 : Kx} {N : Nat} {st : St} {a : Act} {w : World} {Q : Exit → St → Prop} {c : Code}
theorem dz (nm:Nat) {B:Blk} (cs':List C) (hB:st.H nm=some B) (hsz:B.sz≠0) (hl:cs'.length=B.cs.length) (h:∀(κ:Kx) (vs:List Value),denVs κ vs B.cs->denVs κ vs cs'):
  Wk e k0 N st ⟨st.tm,up st.H nm (some {B with cs:=cs'}),st.nx,st.nb⟩:=by
 intro a w hr;obtain ⟨σ,h1,h2,h3⟩:=hr.ex;obtain ⟨g1,g2,xs,g3,g4⟩:=h1.rowOf hB (.inl hsz);obtain ⟨m1,m2⟩:=h1.upd (w':=w) hB ⟨rfl,rfl,rfl,Nat.le_refl _,fun _ _ _=>rfl⟩ (cs:=cs') hsz (by rw [hl];exact g2) g3 (h _ _ g4);exact ⟨⟨_,m1,fun t'=>dY m2 (h2 t'),h3.trans m2⟩,hr.df,hr.sz⟩
end
theorem m5 {κ:Kx} {v:Value} (sz:Nat) (h:den κ v (.lit (.slice none 0 0))):den κ v (.sh sz 0 []):=by
 simp only [den] at h ⊢;exact ⟨none,0,h.1,Nat.le_refl _,by unfold maxLen;omega,fun _=>rfl,by simp,.inl trivial⟩
theorem cv {κ:Kx} {vs:List Value} {c:C} {cs:List C} (h:denVs κ vs (c::cs)):∃v vs',vs=v::vs'/\den κ v c/\denVs κ vs' cs:=by
 cases vs with
 |nil=>exact h.elim
 |cons v vs=>exact ⟨v,vs,rfl,h.1,h.2⟩
end Go.Proofs.YtokmkopihhnggaaGreatDoor
