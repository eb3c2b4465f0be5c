/- guarantee.positive, insolvencyref17.amount, insolvencylaw0: Whole, Ratio, Amount, Few, FewRats: walked. -/
import Derived.Test.YtcgpghifhehlhaaGreatDoorVal1M
import Derived.Test.YtcgpghifhehlhaaGreatDoorEqsM
import Derived.Test.YtcgpghifhehlhaaGreatDoorAbTM
import Derived.Test.YtcgpghifhehlhaaGreatDoorAbGM
set_option linter.unusedVariables false
set_option linter.unusedSimpArgs false
set_option linter.unusedSectionVars false
namespace Go.Proofs.YtcgpghifhehlhaaGreatDoor
open Go.RowKit Go.Proofs.Tryz
theorem jX (n:Int) (w:World) (h0: -9223372036854775808<=n) (h1:n<=9223372036854775807):Calls prog 12 #[.int .i64 n] w fun e w'=>e= .returned (aN (enc (n:Rat)))/\Below w.heap.size w w':=by
 have I:=hid (fun w=>uU n w h0 h1);have HX:=hid (Bx1.new w);generalize enc (n:Rat)=a at *
 unfold aN at I;unfold aN;go_enter func12,ntmps12
 go_wp2_with fail
 refine Calls.mono (I.out _) ?_;rintro e w1 ⟨rfl,hb1⟩;have hx:=HX.out.next hb1;obtain ⟨t0,t1,t2,t3,t4⟩:=hx.1.facts;go_wp2
 refine bC (hx.ret a).1 (fun W' c0 c1 c2=>by simp [results,Tryz.results12,go_sem,c0,c1,c2]) rfl ⟨rfl,(hx.ret a).2⟩
end Go.Proofs.YtcgpghifhehlhaaGreatDoor
namespace Go.Proofs.YtcgpghifhehlhaaGreatDoor
open Go Go.RowKit Go.Proofs.Tryz
structure T3 where
 a:List GPart
 b:List GPart
 c:List GPart
def T3.put (T:T3) (x:Nat) (p:GPart):T3:=if x=1 then ⟨T.a++[p],T.b,T.c⟩ else if x=2 then ⟨T.a,T.b++[p],T.c⟩ else ⟨T.a,T.b,T.c++[p]⟩
theorem fG (n:Int) (h0: -9223372036854775808<=n) (h1:n<=9223372036854775807):ch prog 12 [.one (.lit (.int .i64 n))] (.val (.agg (cS (enc (n:Rat))))):=
 eE (iv func12 (by decide) (by kernel_rfl)) [.int .i64 n] (aN (enc (n:Rat))) fun w=>jX n w h0 h1
structure OS where
 k:Nat
 h:Int
 l:List Leg
section
variable {P : Program} {e : En} {k0 : Kx} {N : Nat} {st : St} {a : Act} {w : World} {Q : Exit → St → Prop} {c : Code}
end
theorem iD {α:Type} {f:α->List C} {sz:Nat} (hf:∀a,(f a).length=sz) (l:List α) (k o:Nat) (ds:List C) (x:α) (h:k<l.length) (ho:o+ds.length<=sz) (hx:spl (f l[k]) o ds=f x):spl (ar f l) (k*sz+o) ds=ar f (l.set k x):=by
 have h1:ar f l=ar f (l.take k)++(f l[k]++ar f (l.drop (k+1))):=by
  conv=>lhs;rw [←List.take_append_drop k l,aV,List.drop_eq_getElem_cons h,aY]
 have h2:ar f (l.set k x)=ar f (l.take k)++(f x++ar f (l.drop (k+1))):=by
  have hk:k<(l.set k x).length:=by simpa using h
  conv=>lhs;rw [←List.take_append_drop k (l.set k x),aV,List.drop_eq_getElem_cons hk,aY]
  rw [List.getElem_set_self,List.drop_set];have:(l.set k x).take k=l.take k:=by rw [List.take_set];exact List.set_eq_of_length_le (by rw [List.length_take];omega)
  rw [this];simp
 have h3:(ar f (l.take k)).length=k*sz:=by rw [aS hf,List.length_take,Nat.min_eq_left (Nat.le_of_lt h)]
 have hlen:=hf l[k];have e1:f l[k]=(f l[k]).take o++(((f l[k]).drop o).take ds.length++(f l[k]).drop (o+ds.length)):=by
  rw [←List.drop_drop,List.take_append_drop,List.take_append_drop]
 have e2:f x=(f l[k]).take o++(ds++(f l[k]).drop (o+ds.length)):=by
  rw [←hx];conv=>lhs;rw [e1]
  have:o=((f l[k]).take o).length:=by rw [List.length_take,hlen];omega
  conv=>lhs;arg 2;rw [this]
  exact nJ _ _ _ _ (by rw [List.length_take,List.length_drop,hlen];omega)
 have e4:k*sz+o=(ar f (l.take k)++(f l[k]).take o).length:=by
  rw [List.length_append,h3,List.length_take,hlen];omega
 have e3:ar f l=(ar f (l.take k)++(f l[k]).take o)++(((f l[k]).drop o).take ds.length++((f l[k]).drop (o+ds.length)++ar f (l.drop (k+1)))):=by
  conv=>lhs;rw [h1,e1]
  simp only [List.append_assoc]
 rw [e3,e4,nJ _ _ _ _ (by rw [List.length_take,List.length_drop,hlen];omega),h2,e2];simp only [List.append_assoc]
def vB (n:Nat):List C:=[.lit (.int .u16 n)]
def cN4 (x:N4):List C:=[.lit (.int .u16 x.a),.lit (.int .u16 x.b),.lit (.int .u16 x.c),.lit (.int .u16 x.d)]
theorem r7 (x:N4):(cN4 x).length=4:=rfl
theorem dm (x:N4):av (cN4 x)=true:=rfl
end Go.Proofs.YtcgpghifhehlhaaGreatDoor
namespace Go.Proofs.YtcgpghifhehlhaaGreatDoor
open Go Go.RowKit Go.ChangeShapes Go.WideShapes Go.ChangeAt Go.Proofs.Tryz
theorem dP:fD prog 68 (rC vB (·<65536)):=by
 intro H enc W fuel cs x h;obtain ⟨n,rfl,hn⟩:=tE underlying68 H enc W fuel cs x h;exact ⟨n,⟨⟨rfl,rfl⟩,trivial⟩,hn⟩
theorem Tryz.cellsU16:prog.cellsOf 68=1:=by kernel_rfl
theorem Tryz.cellsN4:prog.cellsOf 92=4:=by kernel_rfl
def xK (x:N4):Prop:=x.a<65536/\x.b<65536/\x.c<65536/\x.d<65536
theorem tT:fD prog 92 (rC cN4 xK):=by
 intro H enc W fuel cs x h;obtain ⟨xs,m,_,_,hl,hxs,hf⟩:=DataW.trod_array underlying92 h;rw [Tryz.cellsN4] at hl;simp only [Tryz.cellsU16] at hf;match cs,hl with
 |[c0,c1,c2,c3],_=>
  have h0:=hf 0 (by decide);rw [List.getElem?_eq_getElem (by omega)] at h0;have h1:=hf 1 (by decide);rw [List.getElem?_eq_getElem (by omega)] at h1;have h2:=hf 2 (by decide);rw [List.getElem?_eq_getElem (by omega)] at h2;have h3:=hf 3 (by decide);rw [List.getElem?_eq_getElem (by omega)] at h3;obtain ⟨a0,k0,o0⟩:=dP H enc W _ _ _ h0;obtain ⟨a1,k1,o1⟩:=dP H enc W _ _ _ h1;obtain ⟨a2,k2,o2⟩:=dP H enc W _ _ _ h2;obtain ⟨a3,k3,o3⟩:=dP H enc W _ _ _ h3;replace k0:denVs (eP W) [c0] _:=k0;replace k1:denVs (eP W) [c1] _:=k1;replace k2:denVs (eP W) [c2] _:=k2;replace k3:denVs (eP W) [c3] _:=k3;exact ⟨⟨a0,a1,a2,a3⟩,denVs.append k0 (denVs.append k1 (denVs.append k2 k3)),o0,o1,o2,o3⟩
theorem rd:fD prog 22 (rC (cSl 4 cN4) (nO xK)):=pt underlying22 Tryz.cellsN4 (by decide) r7 tT
end Go.Proofs.YtcgpghifhehlhaaGreatDoor
namespace Go.Proofs.YtcgpghifhehlhaaGreatDoor
open Go Go.RowKit Go.Proofs.Tryz

end Go.Proofs.YtcgpghifhehlhaaGreatDoor
