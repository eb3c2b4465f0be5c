/- Demands merged by the program: slices.Concat, ContainsFunc, DeleteFunc, and Merge; lists of demands compared; walked by the abstract machine. -/
import Derived.Test.YtcgpghifhehlhaaGreatDoorCb2M
import Derived.Test.YtcgpghifhehlhaaGreatDoorCb4M
import Derived.Test.YtcgpghifhehlhaaGreatDoorAbKM
import Derived.Test.YtcgpghifhehlhaaGreatDoorAb7M
import Derived.Test.YtcgpghifhehlhaaGreatDoorEqsM
import Derived.Test.YtcgpghifhehlhaaGreatDoorGu1M
import Derived.Test.YtcgpghifhehlhaaGreatDoorCb1M
set_option linter.unusedVariables false
set_option maxHeartbeats 4000000
set_option maxRecDepth 100000
set_option linter.unusedSimpArgs false
set_option linter.defProp false
set_option linter.unusedSectionVars false
namespace Go.Proofs.YtcgpghifhehlhaaGreatDoor
open Go Go.RowKit Go.Proofs.Tryz
def Fr (g:Dem->Bool):List Dem->Nat->Int
 |[],_=> -1
 |d::l,k=>if g d=true then (k:Int) else Fr g l (k+1)
theorem GF (g:Dem->Bool):∀(l:List Dem) (k:Nat),decide (0<=Fr g l k)=l.any g
 |[],k=>rfl
 |d::l,k=>by
  simp only [Fr,List.any_cons];by_cases h:g d=true
  ·simp [h]
  simp only [h,if_false];simpa using GF g l (k+1)
theorem G2 (g:Dem->Bool):∀(l:List Dem) (k:Nat),Fr g l k= -1->∀d∈l,g d=false
 |[],_,_,d,hd=>by cases hd
 |x::l,k,h,d,hd=>by
  simp only [Fr] at h;split at h
  ·omega
  rename_i hx;rcases List.mem_cons.1 hd with rfl|hd
  ·simpa using hx
  exact G2 g l (k+1) h d hd
theorem G3 (g:Dem->Bool):∀(l:List Dem) (k i:Nat),Fr g l k=((k+i:Nat):Int)->i<l.length/\(∀d∈l.take i,g d=false)/\∃h:i<l.length,g l[i]=true
 |[],k,i,h=>by simp only [Fr] at h;omega
 |x::l,k,i,h=>by
  simp only [Fr] at h;split at h
  ·rename_i hx;obtain rfl:i=0:=by omega
   exact ⟨by simp,by simp,⟨by simp,by simpa using hx⟩⟩
  rename_i hx;have hi0:i≠0:=by
   rintro rfl;have:∀(m:List Dem) (q:Nat),Fr g m q= -1∨(q:Int)<=Fr g m q:=by
    intro m;induction m with
    |nil=>intro q;left;rfl
    |cons y m ih=>
     intro q;simp only [Fr];split
     ·right;omega
     rcases ih (q+1) with h1|h1
     ·left;exact h1
     right;omega
   rcases this l (k+1) with h1|h1<;>omega
  obtain ⟨j,rfl⟩:∃j,i=j+1:=⟨i-1,by omega⟩;obtain ⟨h1,h2,h3,h4⟩:=G3 g l (k+1) j (by rw [h];congr 1;omega);refine ⟨by simpa using h1,?_,by simpa using h1,by simpa using h4⟩;intro d hd;rw [List.take_succ_cons] at hd;rcases List.mem_cons.1 hd with rfl|hd
  ·simpa using hx
  exact h2 d hd
theorem GG (g:Dem->Bool):∀(l:List Dem) (k:Nat),Fr g l k= -1∨∃i:Nat,Fr g l k=((k+i:Nat):Int)
 |[],k=> .inl rfl
 |d::l,k=>by
  simp only [Fr];split
  ·exact .inr ⟨0,by simp⟩
  rcases GG g l (k+1) with h|⟨i,h⟩
  ·exact .inl h
  exact .inr ⟨i+1,by rw [h];congr 1;omega⟩
def zc9 (d:Dem):Bool:=decide (d.cts=0)
theorem G4 (d:Dem):nz d= !(zc9 d):=by simp [nz,zc9]
theorem GH {l:List Dem} (h:∀d∈l,zc9 d=false):l.filter nz=l:=List.filter_eq_self.2 fun d hd=>by rw [G4,h d hd];rfl
theorem Gt {out:List Dem} {d:Dem}:rx out d=if h:0<out.length/\keq (at9 out (out.length-1)) d then out.set (out.length-1) ⟨(at9 out (out.length-1)).deb,(at9 out (out.length-1)).par,(at9 out (out.length-1)).gnd,(at9 out (out.length-1)).cts+d.cts⟩ else out++[d]:=by
 rcases List.eq_nil_or_concat out with rfl|⟨o,x,rfl⟩
 ·rw [Ga,dif_neg (fun h=>absurd h.1 (by simp))];rfl
 rw [List.concat_eq_append];have hx:at9 (o++[x]) ((o++[x]).length-1)=x:=by
  rw [dx (by simp)];simp
 rw [hx,FQ];by_cases h:keq x d
 ·rw [if_pos h,dif_pos ⟨by simp,h⟩,List.length_append,List.length_singleton,Nat.add_sub_cancel,List.set_append_right _ _ (Nat.le_refl _),Nat.sub_self];rfl
 rw [if_neg h,dif_neg (fun h9=>h h9.2)];simp
def F18:=And.intro zS (And.intro xg (xh))
theorem F19:type_of%F18:=F18
theorem Iy (d:Dem):ch prog 57 [.agg (dn d)] (one (.bool (FP d))):=by
 refine bF func57 rfl (by decide) (N:=7) rfl (by simp) (R:=[.tmp 2]) rfl fun en k0=>?_
 refine awN ?_;simp only [F19,seval,dn];repeat refine ob ?_
 refine awN ?_;simp only [F19,seval,dn];repeat refine ob ?_
 refine ⟨_,(Cz d.cts),rfl,?_⟩;try simp only [aq,F19,seval,dn]
 repeat refine ob ?_
 refine awX ?_;(first|(simp only [F19,seval,dn,FP];done)|(simp only [F19,seval,dn];first|(simp [FP];done)))
def F20:=And.intro zS (And.intro xg (xh))
theorem F21:type_of%F20:=F20
theorem IY (d:Dem):ch prog 61 [.agg (dn d)] (one (.bool (zc9 d))):=by
 refine bF func61 rfl (by decide) (N:=6) rfl (by simp) (R:=[.tmp 2]) rfl fun en k0=>?_
 refine awN ?_;simp only [F21,seval,dn];repeat refine ob ?_
 refine awN ?_;simp only [F21,seval,dn];repeat refine ob ?_
 refine awX ?_;(first|(simp only [F21,seval,dn,zc9];done)|(simp only [F21,seval,dn];first|(simp [zc9];done)))
def F22:=And.intro zS (And.intro tA (And.intro tu (xe)))
theorem F23:type_of%F22:=F22
theorem H9 (fid:FuncId) (g:Dem->Bool) (hcl:∀d,ch prog fid [.agg (dn d)] (one (.bool (g d)))) (l:List Dem) (hn:l.length<=1000000000000):ch prog 102 [.one (.sh 4 l.length (ar dn l)),.one (.lit (.func (.func fid) #[] #[]))] (one (.int .i64 (Fr g l 0))):=by
 refine bF func102 rfl (by decide) (N:=19) rfl (by simp) (R:=[.tmp 4]) rfl fun en k0=>?_
 refine awN ?_;simp only [F23,seval];repeat refine ob ?_
 refine awN ?_;simp only [F23,seval];repeat refine ob ?_
 refine aQ [0,1,7,8] [] ?_;try simp only [aq,F23,seval]
 repeat' first|apply awS|apply awB
 refine aB (fun n st=>∃k nx,k<=l.length/\n=l.length-k/\Fr g (l.drop k) k=Fr g l 0/\st=⟨mkT [(0,.val (.one (.sh 4 l.length (ar dn l)))),(1,.val (.one (.lit (.func (.func fid) #[] #[])))),(7,one (.int .i64 l.length)),(8,one (.int .i64 k))],mkH [],nx,0⟩) (l.length) ⟨0,_,by omega,by omega,by rfl,rfl⟩ ?_;rintro n0 st ⟨k,nx0,hk0,rfl,hL0,rfl⟩;by_cases hlt0:k<l.length
 ·skip;have hI0:(k:Int)<(l.length:Int):=by omega
  have hat0:=aO AF l k hlt0;try rw [Nat.mul_one] at hat0
  rw [List.drop_eq_getElem_cons hlt0] at hL0;have hC9:=hcl l[k];simp only [dn] at hC9;generalize l[k]=d at *
  simp only [Fr] at hL0;refine awN ?_;simp only [F23,seval,hI0,hat0];repeat refine ob ?_
  refine awT ?_;refine awK ?_;simp only [F23,seval];refine awN ?_;simp only [F23,seval,hI0,hat0];repeat refine ob ?_
  by_cases hg:g d=true
  ·skip;have hgt:g d=true:=hg;refine awN ?_;simp only [F23,seval,hI0,hat0,hgt,hat0,dn];repeat refine ob ?_
   refine ⟨_,hC9,rfl,?_⟩;try simp only [aq,F23,seval,hI0,hat0,hgt,hat0,dn]
   repeat refine ob ?_
   refine awT ?_;refine awN ?_;simp only [F23,seval,hI0,hat0,hgt];repeat refine ob ?_
   refine awX ?_;rw [←hL0];simp only [F23,seval,hgt,if_true]
  skip;have hgf:g d=false:=by simpa using hg
  refine awN ?_;simp only [F23,seval,hI0,hat0,hgf,hat0,dn];repeat refine ob ?_
  refine ⟨_,hC9,rfl,?_⟩;try simp only [aq,F23,seval,hI0,hat0,hgf,hat0,dn]
  repeat refine ob ?_
  refine awF ?_;refine awK ?_;simp only [F23,seval];refine awN ?_;simp only [F23,seval,hI0,hat0,hgf];repeat refine ob ?_
  repeat refine ob ?_
  refine ⟨_,aH [0,1,7,8] [],l.length-(k+1),by omega,k+1,?a9_nx,by omega,rfl,?i9_0,?st9⟩;case st9=>(simp only [F23,seval,hI0,hat0,hgf];first|rfl|(simp [hI0,hat0,hgf,Nat.add_mul];done))
  case i9_0=>(rw [←hL0];simp [hgf])
 skip;obtain rfl:k=l.length:=by omega
 have hI0:¬(l.length:Int)<(l.length:Int):=by omega
 rw [List.drop_length] at hL0;simp only [Fr] at hL0;refine awN ?_;simp only [F23,seval,hI0];repeat refine ob ?_
 refine awF ?_;refine awQ ?_;simp only [F23,seval];refine awN ?_;simp only [F23,seval,hI0];repeat refine ob ?_
 refine awX ?_;rw [←hL0];simp only [F23,seval]
theorem Ia (fid:FuncId) (g:Dem->Bool) (hcl:∀d,ch prog fid [.agg (dn d)] (one (.bool (g d)))) (l:List Dem) (hn:l.length<=1000000000000):ch prog 56 [.one (.sh 4 l.length (ar dn l)),.one (.lit (.func (.func fid) #[] #[]))] (one (.bool (l.any g))):=by
 have hI9:=H9 fid g hcl l hn;refine bF func56 rfl (by decide) (N:=9) rfl (by simp) (R:=[.tmp 4]) rfl fun en k0=>?_
 refine awN ?_;simp only [zT,seval];repeat refine ob ?_
 refine awN ?_;simp only [zT,seval,ab aC];repeat refine ob ?_
 refine ⟨_,hI9,(by first|rfl|simp [bu,aI,av,az,A1.cells,ab aC]),?_⟩;try simp only [aq,zT,seval,ab aC]
 repeat refine ob ?_
 refine awX ?_;rw [←GF g l 0];simp only [zT,seval]
def F24:=And.intro zS (And.intro tu (And.intro pj (u7)))
theorem F25:type_of%F24:=F24
theorem Ir (m : Nat) (H : Hp) (ny : Nat) (hbH : ∀ y B, H y = some B → y < 30) (hm : m ≤ 1000000000000) : dk prog 101 [.one (.lit (.slice none 0 0)), .one (.lit (.int .i64 m))] H ny
      (fun res H' _ => ∃ s, res = .val (.one (.own 33 s 0 4)) ∧ H' = bW H [(33, ⟨s, 88, 4, 0, []⟩)]) := by
  have n1 : ¬ (m : Int) < 0 := by omega
  have n2 : ((0 : Nat) : Int) - ((0 : Nat) : Int) = 0 := by omega
  have n3 : (m : Int) - 0 = m := by omega
  refine fm 8 func101 rfl (by decide) (N := 27) rfl (by simp) (Rl := [.tmp 4]) rfl fun en k0 => ?_
  refine awN ?_
  simp only [F25, seval]
  refine awN ?_
  simp only [F25, seval, n1]
  refine awF ?_
  refine awK ?_
  simp only [F25, seval]
  refine awN ?_
  simp only [F25, seval, n2, n3]
  repeat refine ob ?_
  by_cases h0 : 0 < m
  · have hI : (0 : Int) < (m : Int) := by omega
    refine awN ?_
    simp only [F25, seval, hI]
    refine awT ?_
    refine awN ?_
    simp only [F25, seval]
    repeat refine ob ?_
    refine aE H [0] [33] (by intro y B h; right; have h9 := hbH y B h; simp only [aj]; (repeat rw [if_neg (by omega)]); exact h) ?_
    try simp only [aq, F25, seval]
    refine awN ?_
    simp only [F25, seval]
    refine awX ?_
    simp only [F25, seval]
    exact ⟨_, rfl, rfl⟩
  have hI : ¬ (0 : Int) < (m : Int) := by omega
  refine awN ?_
  simp only [F25, seval, hI]
  refine awF ?_
  refine awK ?_
  simp only [F25, seval]
  refine awN ?_
  simp only [F25, seval]
  repeat' first|apply awS|apply awB
  refine rS 4 33 88 4 (by decide) (by rfl) ?_
  refine aE H [4] [33] (by intro y B h; right; have h9 := hbH y B h; simp only [aj]; (repeat rw [if_neg (by omega)]); exact h) ?_
  refine awX ?_
  simp only [F25, seval]
  exact ⟨_, rfl, rfl⟩
theorem Iz (a b:List Dem) (k:Nat) (h:k<2):[C.sh 4 a.length (ar dn a),C.sh 4 b.length (ar dn b)][k]? =some (.sh 4 ([a,b].getD k []).length (ar dn ([a,b].getD k []))):=by
 have:k=0∨k=1:=by omega
 rcases this with rfl|rfl<;>rfl
def ccP (a b:List Dem) (k:Nat):List Dem:=([a,b].take k).flatten
theorem GI (a b:List Dem) (k:Nat) (h:k<2):ccP a b k++[a,b].getD k []=ccP a b (k+1):=by
 have:k=0∨k=1:=by omega
 rcases this with rfl|rfl<;>simp [ccP]
theorem G5 (a b:List Dem) (k:Nat):(ccP a b k).length<=a.length+b.length:=by
 unfold ccP;match k with
 |0=>simp
 |1=>simp
 |k+2=>simp
theorem Gu (a b:List Dem):ccP a b 2=a++b:=by simp [ccP]
def F26:=And.intro zS (And.intro yB (And.intro jS (And.intro tu (And.intro jT (u7)))))
theorem F27:type_of%F26:=F26
theorem Ib (a b:List Dem) (H:Hp) (ny s21:Nat) (hna:a.length<=64) (hnb:b.length<=64) (hbH:∀y B,H y=some B->y<30) (h21:H 21=some ⟨s21,72,1,2,[.sh 4 a.length (ar dn a),.sh 4 b.length (ar dn b)]⟩):
  dk prog 55 [.one (.own 21 s21 2 1)] H ny (fun res H' _=>∃s,res= .val (.one (.own 33 s (a++b).length 4))/\H'=bW H [(33,⟨s,88,4,(a++b).length,ar dn (a++b)⟩)]):=by
 refine fm 0 func55 rfl (by decide) (N:=36) rfl (by simp) (Rl:=[.tmp 2]) rfl fun en k0=>?_
 refine awN ?_;simp only [F27,seval];repeat refine ob ?_
 refine awN ?_;simp only [F27,seval];repeat refine ob ?_
 refine awN ?_;simp only [F27,seval];repeat refine ob ?_
 refine ⟨⟨_,h21,rfl⟩,?_⟩;refine aE H [0,3,9,10,11] [] (fun y B h=> .inr h) ?_;try simp only [aq,F27,seval]
 repeat' first|apply awS|apply awB
 refine aB (fun n st=>∃k nx,k<=2/\n=2-k/\st=⟨mkT [(0,.val (.one (.own 21 s21 2 1))),(3,one (.int .i64 (ccP a b k).length)),(9,.val (.one (.own 21 s21 2 1))),(10,one (.int .i64 2)),(11,one (.int .i64 k))],H,nx,0⟩) (2) ⟨0,_,by omega,by omega,by first|rfl|(simp [ccP];done)⟩ ?_;rintro n0 st ⟨k,nx0,hk,rfl,rfl⟩;by_cases hi0:(k:Int)<(2:Int)
 ·refine awN ?_;simp only [F27,seval,hi0];repeat refine ob ?_
  refine awT ?_;refine awK ?_;simp only [F27,seval];have hk2:k<2:=by omega
  have hcc:=Iz a b k hk2;have hst:=GI a b k hk2;have hbd:=G5 a b (k+1);obtain ⟨t9,ht9⟩:∃t,[a,b].getD k []=t:=⟨_,rfl⟩;rw [ht9] at hcc hst;have hcl9:=congrArg List.length hst;rw [List.length_append] at hcl9;have hzl:((ccP a b k).length:Int)+(t9.length:Int)=((ccP a b (k+1)).length:Int):=by omega
  have hfl9:=congrArg (ar dn) hst;rw [aV] at hfl9;refine awN ?_;simp only [F27,seval,hi0,h21,hcc];repeat refine ob ?_
  refine awN ?_;simp only [F27,seval,hi0,hzl];repeat refine ob ?_
  refine awN ?_;simp only [F27,seval,hi0];repeat refine ob ?_
  refine awF ?_;refine awK ?_;simp only [F27,seval];refine awN ?_;simp only [F27,seval,hi0];repeat refine ob ?_
  repeat refine ob ?_
  refine ⟨_,bE H [0,3,9,10,11] [] (fun y B h=> .inr h),2-(k+1),by omega,k+1,?na9,by omega,rfl,?st9⟩;case st9=>(simp only [F27,seval,hcl9];first|rfl|(simp;done))
 refine awN ?_;simp only [F27,seval,hi0];repeat refine ob ?_
 refine awF ?_;refine awQ ?_;simp only [F27,seval];have hk9:k=2:=by omega
 subst hk9;rw [Gu];refine awR [24] [0,0,0] ?_;simp only [F27,seval,hi0];repeat refine ob ?_
 refine ⟨_,Ir (a++b).length _ _ hbH (by simp;omega),?_⟩;rintro res H' nx' ⟨s9,rfl,rfl⟩;try simp only [aq,F27,seval,hi0]
 repeat refine ob ?_
 refine awN ?_;simp only [F27,seval,hi0];repeat refine ob ?_
 refine ⟨⟨_,h21,rfl⟩,?_⟩;refine aE H [6,25,26,27] [33] (by intro y B h;right;have h9:=hbH y B h;(try simp only [aj]);(repeat rw [if_neg (by omega)]);exact h) ?_;try simp only [aq,F27,seval,hi0]
 repeat' first|apply awS|apply awB
 refine aB (fun n st=>∃k s nx,k<=2/\n=2-k/\st=⟨mkT [(6,.val (.one (.own 33 s (ccP a b k).length 4))),(25,.val (.one (.own 21 s21 2 1))),(26,one (.int .i64 2)),(27,one (.int .i64 k))],bW H [(33,⟨s,88,4,(ccP a b k).length,ar dn (ccP a b k)⟩)],nx,0⟩) (2) ⟨0,_,_,by omega,by omega,by first|rfl|(simp [ccP];done)⟩ ?_;rintro n1 st ⟨k,s,nx1,hk,rfl,rfl⟩;by_cases hi1:(k:Int)<(2:Int)
 ·refine awN ?_;simp only [F27,seval,hi0,hi1];repeat refine ob ?_
  refine awT ?_;refine awK ?_;simp only [F27,seval];have hk2:k<2:=by omega
  have hcc:=Iz a b k hk2;have hst:=GI a b k hk2;have hbd:=G5 a b (k+1);obtain ⟨t9,ht9⟩:∃t,[a,b].getD k []=t:=⟨_,rfl⟩;rw [ht9] at hcc hst;have hcl9:=congrArg List.length hst;rw [List.length_append] at hcl9;have hzl:((ccP a b k).length:Int)+(t9.length:Int)=((ccP a b (k+1)).length:Int):=by omega
  have hfl9:=congrArg (ar dn) hst;rw [aV] at hfl9;refine awN ?_;simp only [F27,seval,hi0,hi1,h21,hcc];repeat refine ob ?_
  refine awN ?_;simp only [F27,seval,hi0,hi1,hfl9,hzl,hcl9];repeat refine ob ?_
  refine awN ?_;simp only [F27,seval,hi0,hi1];repeat refine ob ?_
  repeat refine ob ?_
  refine ⟨_,bE H [6,25,26,27] [33] (by intro y B h;right;have h9:=hbH y B h;(try simp only [aj]);(repeat rw [if_neg (by omega)]);exact h),2-(k+1),by omega,k+1,?sa17,?na17,by omega,rfl,?st17⟩;case st17=>(simp only [F27,seval,hcl9];first|rfl|(simp;done))
 refine awN ?_;simp only [F27,seval,hi0,hi1];repeat refine ob ?_
 refine awF ?_;refine awQ ?_;simp only [F27,seval];refine awN ?_;simp only [F27,seval,hi0,hi1];repeat refine ob ?_
 have hk9:k=2:=by omega
 subst hk9;refine awX ?_;simp only [F27,seval];exact ⟨s,by rw [Gu],by rw [Gu]⟩
def GJ (l l2:List Dem) (i j:Nat):Prop:=l2.length=l.length/\l2.take i=(l.take j).filter nz/\l2.drop j=l.drop j
theorem GO {l:List Dem} {i:Nat} (h:i<l.length) (h1:∀d∈l.take i,zc9 d=false) (h2:zc9 l[i]=true):GJ l l i (i+1):=by
 refine ⟨rfl,?_,rfl⟩;rw [List.take_succ_eq_append_getElem h,List.filter_append,GH h1];have:nz l[i]=false:=by rw [G4,h2];rfl
 simp [List.filter_cons,this]
theorem Is {l l2:List Dem} {i j:Nat} (h:GJ l l2 i j) (hj:j<l.length):∃h2:j<l2.length,l2[j]=l[j]:=by
 have hl:=h.1;refine ⟨by omega,?_⟩;have h3:=congrArg (fun m=>m[0]?) h.2.2;simp only [List.getElem?_drop,Nat.add_zero] at h3;rw [List.getElem?_eq_getElem (by omega),List.getElem?_eq_getElem hj] at h3;exact Option.some.inj h3
theorem Hg {l l2:List Dem} {i j:Nat} (h:GJ l l2 i j) (hj:j<l.length) (hz:zc9 l[j]=true):GJ l l2 i (j+1):=by
 refine ⟨h.1,?_,?_⟩
 ·rw [h.2.1,List.take_succ_eq_append_getElem hj,List.filter_append];have:nz l[j]=false:=by rw [G4,hz];rfl
  simp [List.filter_cons,this]
 have h3:=congrArg (List.drop 1) h.2.2;simpa [List.drop_drop] using h3
theorem Hh {l l2:List Dem} {i j:Nat} (h:GJ l l2 i j) (hij:i<j) (hj:j<l.length) (hz:zc9 l[j]=false):GJ l (l2.set i l[j]) (i+1) (j+1):=by
 have hl:=h.1;refine ⟨by rw [List.length_set];exact hl,?_,?_⟩
 ·rw [List.take_succ_eq_append_getElem (by rw [List.length_set];omega),List.take_set_of_le (Nat.le_refl _),h.2.1,List.getElem_set_self,List.take_succ_eq_append_getElem hj,List.filter_append];have:nz l[j]=true:=by rw [G4,hz];rfl
  simp [List.filter_cons,this]
 rw [List.drop_set_of_lt (by omega)];have h3:=congrArg (List.drop 1) h.2.2;simpa [List.drop_drop] using h3
theorem Ic {l l2:List Dem} {i:Nat} (h:GJ l l2 i l.length):l2.take i=l.filter nz:=by rw [h.2.1,List.take_length]
theorem Id (l2:List Dem) (i:Nat) (X:List C) (hi:i<=l2.length):(spl (ar dn l2) (i*4) X).take (i*4)=ar dn (l2.take i):=by
 unfold spl;have hl:((ar dn l2).take (i*4)).length=i*4:=by rw [List.length_take,aS AF];omega
 rw [List.append_assoc,List.take_append_of_le_length (by omega),List.take_of_length_le (by omega),G9 AF]
theorem IS {H f:Hp} (hb:∀y B,H y=some B->y<1000) (hf:∀x,x<1000->x≠61->f x=H x) (l:List Nat):∀x B,H x=some B->fI (61::l) x=true∨f x=some B:=fun x B h=>by
 by_cases hx:x=61
 ·left;subst hx;rfl
 right;rw [hf x (hb x B h) hx];exact h
def F28:=And.intro zS (And.intro tA (And.intro tu (And.intro xe (u7))))
theorem F29:type_of%F28:=F28
theorem IT (l:List Dem) (H:Hp) (ny s N9:Nat) (hbH:∀y B,H y=some B->y<1000) (hN:l.length=N9) (hN9:N9<=1000) (h61:H 61=some ⟨s,88,4,N9,ar dn l⟩):
  dk prog 60 [.one (.own 61 s N9 4),.one (.lit (.func (.func 61) #[] #[]))] H ny (fun res _ _=>res= .val (.one (.sh 4 (l.filter nz).length (ar dn (l.filter nz))))):=by
 have hI9:=H9 61 zc9 IY l (by omega);rw [hN] at hI9;refine fm 1000 func60 rfl (by decide) (N:=42) rfl (by simp) (Rl:=[.tmp 4]) rfl fun en k0=>?_
 refine awN ?_;simp only [F29,seval];repeat refine ob ?_
 refine awN ?_;simp only [F29,seval,ab aC,h61];repeat refine ob ?_
 refine ⟨_,hI9,(by first|rfl|simp [bu,aI,av,az,A1.cells,ab aC]),?_⟩;try simp only [aq,F29,seval,ab aC,h61]
 repeat refine ob ?_
 by_cases hm:Fr zc9 l 0= -1
 ·skip;refine awN ?_;simp only [F29,seval,hm,h61];repeat refine ob ?_
  refine awT ?_;refine awN ?_;simp only [F29,seval,hm];repeat refine ob ?_
  refine dL (t:=4) (by rfl) h61 (by decide) rfl ?_;refine awX ?_;simp only [F29,seval];rw [GH (G2 zc9 l 0 hm),hN]
 skip;refine awN ?_;simp only [F29,seval,hm,h61];repeat refine ob ?_
 refine awF ?_;refine awK ?_;simp only [F29,seval];obtain ⟨i0,hi0⟩:=(GG zc9 l 0).resolve_left hm;rw [Nat.zero_add] at hi0;obtain ⟨hil,hib,hic,hid⟩:=G3 zc9 l 0 i0 (by rw [Nat.zero_add];exact hi0);refine awN ?_;simp only [F29,seval,hm,hi0];repeat refine ob ?_
 refine aE H [0,1,5,6] [61] (IS hbH (fun x h1 h2=>by (try simp only [aj]);repeat rw [if_neg (by omega)]) _) ?_;try simp only [aq,F29,seval,hm]
 repeat' first|apply awS|apply awB
 refine aB (fun n st=>∃i j l2 nx,i<j/\j<=N9/\n=N9-j/\GJ l l2 i j/\st=⟨mkT [(0,.val (.one (.own 61 s N9 4))),(1,.val (.one (.lit (.func (.func 61) #[] #[])))),(5,one (.int .i64 i)),(6,one (.int .i64 j))],bW H [(61,⟨s,88,4,N9,ar dn l2⟩)],nx,1000⟩) (N9-(i0+1)) ⟨i0,i0+1,l,_,by omega,by omega,rfl,GO hil hib hid,by simp only [F29,seval,h61,hi0];first|rfl|(simp;done)⟩ ?_;rintro n0 st ⟨i,j,l2,nx0,hij,hjn,rfl,hth,rfl⟩;by_cases hj0:(j:Int)<(N9:Int)
 ·skip;have hjl:j<l.length:=by omega
  refine awN ?_;simp only [F29,seval,hm,hj0];repeat refine ob ?_
  refine awT ?_;refine awK ?_;simp only [F29,seval];obtain ⟨hjl2,hjd⟩:=Is hth hjl;have hat:=vm hjl2;rw [hjd] at hat;obtain ⟨d,hld⟩:∃d,l[j]=d:=⟨_,rfl⟩;rw [hld] at hat;have hfl2:=aS AF l2;rw [hth.1,hN] at hfl2;simp only [dn] at hat;refine awN ?_;simp only [F29,seval,hm,hj0,hat,hfl2];repeat refine ob ?_
  have hzc:=IY d;simp only [dn] at hzc;by_cases hz:zc9 d=true
  ·skip;refine awN ?_;simp only [F29,seval,hm,hj0,hz,dn];repeat refine ob ?_
   refine ⟨_,hzc,rfl,?_⟩;try simp only [aq,F29,seval,hm,hj0,hz,dn]
   repeat refine ob ?_
   refine awF ?_;refine awK ?_;simp only [F29,seval];refine awN ?_;simp only [F29,seval,hm,hj0,hz];repeat refine ob ?_
   repeat refine ob ?_
   refine ⟨_,bE H [0,1,5,6] [61] (IS hbH (fun x h1 h2=>by (try simp only [aj]);repeat rw [if_neg (by omega)]) _),N9-(j+1),by omega,i,j+1,l2,?na12,by omega,by omega,rfl,Hg hth hjl (by rw [hld];exact hz),?st12⟩;case st12=>(simp only [F29,seval];first|rfl|(simp;done))
  skip;have hzf:zc9 d=false:=by simpa using hz
  refine awN ?_;simp only [F29,seval,hm,hj0,hz,hzf,dn];repeat refine ob ?_
  refine ⟨_,hzc,rfl,?_⟩;try simp only [aq,F29,seval,hm,hj0,hz,hzf,dn]
  repeat refine ob ?_
  refine awT ?_;have hst9:=n5 l2 i d (by omega);simp only [dn] at hst9;refine awN ?_;simp only [F29,seval,hm,hj0,hz,hzf,dn,hst9,hfl2];repeat refine ob ?_
  refine awN ?_;simp only [F29,seval,hm,hj0,hz,hzf];repeat refine ob ?_
  refine awN ?_;simp only [F29,seval,hm,hj0,hz,hzf];repeat refine ob ?_
  repeat refine ob ?_
  have hth2:=Hh hth hij hjl (by rw [hld];simpa using hz);rw [hld] at hth2;refine ⟨_,bE H [0,1,5,6] [61] (IS hbH (fun x h1 h2=>by (try simp only [aj]);repeat rw [if_neg (by omega)]) _),N9-(j+1),by omega,i+1,j+1,l2.set i d,?na17,by omega,by omega,rfl,hth2,?st17⟩;case st17=>(simp only [F29,seval];first|rfl|(simp;done))
 skip;refine awN ?_;simp only [F29,seval,hm,hj0];repeat refine ob ?_
 refine awF ?_;refine awQ ?_;simp only [F29,seval];repeat' first|apply awS|apply awB
 have hjN:j=l.length:=by omega
 rw [hjN] at hth;have hte:=Ic hth;have hl2N:l2.length=N9:=hth.1.trans hN;have hleq:=congrArg List.length hte;refine GE [] (gs:=[none,none,none,none]) (by rfl) (by kernel_rfl) (by decide) ?_;simp only [F29,seval,(id SKc)];repeat refine ob ?_
 refine dL (t:=0) (by rfl) (by rfl) (by decide) (by rfl) ?_;simp only [F29,seval];refine awN ?_;simp only [F29,seval,hm,hj0];repeat refine ob ?_
 refine awX ?_;simp only [F29,seval,Nat.sub_zero];have hi9:i=(l.filter nz).length:=by rw [List.length_take] at hleq;omega
 rw [Id _ _ _ (by omega),hte,←hi9]
theorem GP : (prog.fieldsOf 88).toList = [⟨"Debtor", 3, 0, false, "", "", 0⟩, ⟨"Party", 3, 1, false, "", "", 8⟩, ⟨"Ground", 3, 2, false, "", "", 16⟩, ⟨"Cents", 2, 3, false, "", "", 24⟩] := by kernel_rfl
theorem Ie:ldT prog 2=some (false,1):=by kernel_rfl
theorem If (cs:Array Value) (i:Nat) (v:Value) (h:cs[i]? =some v) (w:World):(part 2 cs i).run prog w= .ok v w:=by
 simp [part,(Fs Ie w).1,h]
theorem It (a:Dem):zg prog 88 [.int .i64 a.deb,.int .i64 a.par,.int .i64 a.gnd,.int .i64 a.cts] [.int .i64 a.deb,.int .i64 a.par,.int .i64 a.gnd,.int .i64 a.cts]:=fun w=>⟨by
 have h2:=run_equalIn_agg (P:=prog) w 9999 88 #[.int .i64 a.deb,.int .i64 a.par,.int .i64 a.gnd,.int .i64 a.cts] #[.int .i64 a.deb,.int .i64 a.par,.int .i64 a.gnd,.int .i64 a.cts] (by kernel_rfl) (by kernel_rfl);have h3:(Op.equal 88 (.agg #[.int .i64 a.deb,.int .i64 a.par,.int .i64 a.gnd,.int .i64 a.cts]) (.agg #[.int .i64 a.deb,.int .i64 a.par,.int .i64 a.gnd,.int .i64 a.cts])).run prog w=(Op.equalIn (9999+1) 88 (.agg #[.int .i64 a.deb,.int .i64 a.par,.int .i64 a.gnd,.int .i64 a.cts]) (.agg #[.int .i64 a.deb,.int .i64 a.par,.int .i64 a.gnd,.int .i64 a.cts])).run prog w:=rfl;have hi:=fun (x y:Int)=>run_equalIn_int (P:=prog) w 9998 3 .i64 .i64 x y (by kernel_rfl)
 have hj:=fun (x y:Int)=>run_equalIn_int (P:=prog) w 9998 2 .i64 .i64 x y (by kernel_rfl)
 have p0:=pq #[.int .i64 a.deb,.int .i64 a.par,.int .i64 a.gnd,.int .i64 a.cts] 0 _ rfl w;have p1:=pq #[.int .i64 a.deb,.int .i64 a.par,.int .i64 a.gnd,.int .i64 a.cts] 1 _ rfl w;have p2:=pq #[.int .i64 a.deb,.int .i64 a.par,.int .i64 a.gnd,.int .i64 a.cts] 2 _ rfl w;have p3:=If #[.int .i64 a.deb,.int .i64 a.par,.int .i64 a.gnd,.int .i64 a.cts] 3 _ rfl w;show (Op.equal 88 (.agg #[.int .i64 a.deb,.int .i64 a.par,.int .i64 a.gnd,.int .i64 a.cts]) (.agg #[.int .i64 a.deb,.int .i64 a.par,.int .i64 a.gnd,.int .i64 a.cts])).run prog w=_;rw [h3,h2,GP];have n0 : ¬ "Debtor" = "_" := by decide
 have n1 : ¬ "Party" = "_" := by decide
 have n2 : ¬ "Ground" = "_" := by decide
 have n3 : ¬ "Cents" = "_" := by decide
 simp only [Op.eqFields,ne_eq,n0,n1,n2,n3,not_false_eq_true,if_true,Sem.run_bind,p0,p1,p2,p3,Result.andThen_ok,hi,hj];simp [hi,hj,p0,p1,p2,p3,n0,n1,n2,n3,Op.eqFields,oc,eqV],by kernel_rfl⟩
theorem Iu (a:Dem):oc [.int .i64 a.deb,.int .i64 a.par,.int .i64 a.gnd,.int .i64 a.cts] [.int .i64 a.deb,.int .i64 a.par,.int .i64 a.gnd,.int .i64 a.cts]=true:=by simp [oc,eqV]
def F30:=And.intro zS (And.intro tA (And.intro tu (xe)))
theorem F31:type_of%F30:=F30
theorem Ft (l:List Dem) (hl:l.length<=1000000000000):ch prog 27 [.one (.sh 4 l.length (ar dn l)),.one (.sh 4 l.length (ar dn l))] (one (.bool true)):=by
 refine bF func27 rfl (by decide) (N:=26) rfl (by simp) (R:=[.tmp 4]) rfl fun en k0=>?_
 refine awN ?_;simp only [F31,seval];repeat refine ob ?_
 refine awN ?_;simp only [F31,seval,decide_true,Bool.not_true,BEq.rfl];repeat refine ob ?_
 refine awF ?_;refine awK ?_;simp only [F31,seval];refine awN ?_;simp only [F31,seval];repeat refine ob ?_
 refine aQ [0,1,5] [] ?_;try simp only [aq,F31,seval]
 repeat' first|apply awS|apply awB
 refine aB (fun n st=>∃k nx,k<=l.length/\n=l.length-k/\st=⟨mkT [(0,.val (.one (.sh 4 l.length (ar dn l)))),(1,.val (.one (.sh 4 l.length (ar dn l)))),(5,one (.int .i64 k))],mkH [],nx,0⟩) (l.length) ⟨0,_,by omega,by omega,rfl⟩ ?_;rintro n0 st ⟨k,nx0,hk0,rfl,rfl⟩;by_cases hlt0:(k:Int)<(l.length:Int)
 ·refine awN ?_;simp only [F31,seval,hlt0];repeat refine ob ?_
  refine awT ?_;refine awK ?_;simp only [F31,seval];have hk2:k<l.length:=by omega
  have hat:=aO AF l k hk2;have hq:=It l[k];have hqv:=Iu l[k];refine awD (scT 0 9 .nil) [0,0,0,0,0,0,0,0,0] ?_;simp only [F31,seval,hlt0,hat,dn,hqv,decide_true,Bool.not_true,BEq.rfl];repeat refine ob ?_
  try refine ⟨hq,?_⟩
  repeat refine ob ?_
  refine awF ?_;refine awK ?_;simp only [F31,seval];refine awN ?_;simp only [F31,seval,hlt0];repeat refine ob ?_
  repeat refine ob ?_
  refine ⟨_,aH [0,1,5] [],l.length-(k+1),by omega,k+1,?na7,by omega,rfl,?st7⟩;case st7=>(simp only [F31,seval];first|rfl|(simp;done))
 refine awN ?_;simp only [F31,seval,hlt0];repeat refine ob ?_
 refine awF ?_;refine awQ ?_;simp only [F31,seval];refine awN ?_;simp only [F31,seval,hlt0];repeat refine ob ?_
 refine awX ?_;(first|(simp only [F31,seval,hlt0];done)|(simp only [F31,seval];first|(simp [hlt0];done)))
theorem Iv {out:List Dem} {d:Dem} {m:Int} (hm:0<=m) (h:∀x∈out,0<=x.cts/\x.cts<=m) (hd:0<=d.cts/\d.cts<=1125899906842624):(∀x∈rx out d,0<=x.cts/\x.cts<=m+1125899906842624)/\(rx out d).length<=out.length+1:=by
 rcases List.eq_nil_or_concat out with rfl|⟨o,x,rfl⟩
 ·rw [Ga];refine ⟨fun y hy=>?_,by simp⟩;simp at hy;subst hy
  omega
 rw [List.concat_eq_append] at h ⊢;rw [FQ];have hx:=h x (by simp);split
 ·refine ⟨fun y hy=>?_,by simp⟩;rcases List.mem_append.1 hy with hy|hy
  ·have:=h y (by simp [hy]);omega
  simp at hy;subst hy;simp only;omega
 refine ⟨fun y hy=>?_,by simp⟩;rcases List.mem_append.1 hy with hy|hy
 ·have:=h y (by simp [hy]);omega
 simp at hy;rcases hy with rfl|rfl
 ·omega
 omega
def F32:=And.intro zS (And.intro tA (And.intro jS (And.intro tu (And.intro xg (And.intro xe (And.intro xh (And.intro yC (u7))))))))
theorem F33:type_of%F32:=F32
theorem G6 (a b:List Dem) (hna:a.length<=9223372036854775807) (hnb:b.length<=9223372036854775807):ch prog 25 [.one (.sh 4 a.length (ar dn a)),.one (.sh 4 b.length (ar dn b))] (mgV (mgT a b)):=by
 refine bF func25 rfl (by decide) (N:=69) rfl (by simp) (R:=[.tmp 4,.tmp 5]) rfl fun en k0=>?_
 refine awN ?_;simp only [F33,seval];repeat refine ob ?_
 by_cases ha:(64:Int)<(a.length:Int)
 ·refine awR [] [0,0,0,0,30,30,30,0] ?_;simp only [F33,seval,ha];repeat refine ob ?_
  refine awT ?_;refine awN ?_;simp only [F33,seval,ha];repeat refine ob ?_
  refine rS 4 70 88 4 (by decide) (by rfl) ?_;refine awX ?_;have hR:mgT a b=([],2):=by unfold mgT;rw [if_pos (.inl ha)]
  rw [hR];simp only [F33,seval,mgV,av,ej];try simp
 by_cases hb:(64:Int)<(b.length:Int)
 ·refine awR [] [0,0,0,0,30,30,30,0] ?_;simp only [F33,seval,ha,hb];repeat refine ob ?_
  refine awT ?_;refine awN ?_;simp only [F33,seval,ha,hb];repeat refine ob ?_
  refine rS 4 70 88 4 (by decide) (by rfl) ?_;refine awX ?_;have hR:mgT a b=([],2):=by unfold mgT;rw [if_pos (.inr hb)]
  rw [hR];simp only [F33,seval,mgV,av,ej];try simp
 refine awR [] [0,0,0,0,30,30,30,0] ?_;simp only [F33,seval,ha,hb];repeat refine ob ?_
 refine awF ?_;refine awK ?_;simp only [F33,seval];have hab:(a++b).length<=128:=by simp;omega
 refine awR [22] [0,0,0,0,0] ?_;simp only [F33,seval,ha,hb];repeat refine ob ?_
 refine ⟨_,Ib a b _ _ _ (by omega) (by omega) (fun y B hB=>?_) (by simp only [aj];rfl),?_⟩
 ·simp only [aj] at hB;repeat (split at hB;· omega)
  cases hB
 rintro res H' nx' ⟨s33,rfl,rfl⟩;try simp only [aq,F33,seval,ha,hb]
 repeat refine ob ?_
 by_cases hbad:(a++b).any FP=true
 ·have hB:=Ia 57 FP Iy (a++b) (by omega);refine awN ?_;simp only [F33,seval,ha,hb,hbad,ab aC];repeat refine ob ?_
  refine ⟨_,hB,(by first|rfl|simp [bu,aI,av,az,A1.cells,ab aC]),?_⟩;try simp only [aq,F33,seval,ha,hb,hbad,ab aC]
  repeat refine ob ?_
  refine awT ?_;refine awN ?_;simp only [F33,seval,ha,hb,hbad];repeat refine ob ?_
  refine rS 4 70 88 4 (by decide) (by rfl) ?_;refine awX ?_;have hR:mgT a b=([],1):=by unfold mgT;rw [if_neg (fun h9=>h9.elim ha hb),if_pos hbad]
  rw [hR];simp only [F33,seval,mgV,av,ej];try simp
 have hbadf:(a++b).any FP=false:=by simpa using hbad
 have hB:=Ia 57 FP Iy (a++b) (by omega);refine awN ?_;simp only [F33,seval,ha,hb,hbad,hbadf,ab aC];repeat refine ob ?_
 refine ⟨_,hB,(by first|rfl|simp [bu,aI,av,az,A1.cells,ab aC]),?_⟩;try simp only [aq,F33,seval,ha,hb,hbad,hbadf,ab aC]
 repeat refine ob ?_
 refine awF ?_;refine awK ?_;simp only [F33,seval];obtain ⟨N9,hN9⟩:∃N9,N9=(a++b).length:=⟨_,rfl⟩;have hall:∀d∈a++b,0<=d.cts/\d.cts<=1125899906842624:=fun d hd=>by
  rw [List.any_eq_false] at hbadf;have:=hbadf d hd;simpa [FP,inR] using this
 rw [←hN9];refine awR [26] [0,0] ?_;simp only [F33,seval,ha,hb,hbad,hbadf,eg];repeat refine ob ?_
 refine ⟨_,Gn _ _ s33 N9 (fun y B hB=>?_) (by omega) (a++b) hN9.symm (by simp only [aj];rfl),?_⟩
 ·simp only [aj] at hB;repeat (split at hB;· omega)
  cases hB
 rintro res H' nx' ⟨l3,rfl,hso,rfl⟩;simp only [Fz];try simp only [aq,F33,seval,ha,hb,hbad,hbadf,eg]
 repeat refine ob ?_
 refine awN ?_;simp only [F33,seval,ha,hb,hbad,hbadf];repeat refine ob ?_
 refine dL (t:=6) (by rfl) (by rfl) (by decide) (by rfl) ?_;simp only [F33,seval];have hl3N:l3.length=N9:=by rw [hN9];exact hso.1.length_eq
 have hpw:l3.Pairwise (fun a b=>¬klt b a):=ID (by rw [hl3N];exact hso.2);refine awN ?_;simp only [F33,seval,ha,hb,hbad,hbadf];repeat refine ob ?_
 refine rS 7 61 88 4 (by decide) (by rfl) ?_;simp only [F33,seval];refine aQ [7,27,28,29] [61] ?_;try simp only [aq,F33,seval,ha,hb,hbad,hbadf]
 repeat' first|apply awS|apply awB
 refine aB (fun n st=>∃k out s nx,k<=N9/\n=N9-k/\(l3.drop k).foldl rx out=l3.foldl rx []/\out.length<=k/\(∀x∈out,0<=x.cts/\x.cts<=(k:Int)*1125899906842624)/\st=⟨mkT [(7,.val (.one (.own 61 s out.length 4))),(27,.val (.one (.sh 4 N9 (ar dn l3)))),(28,one (.int .i64 N9)),(29,one (.int .i64 k))],mkH [(61,⟨s,88,4,out.length,ar dn out⟩)],nx,0⟩) (N9) ⟨0,[],_,_,by omega,by omega,rfl,by simp,by simp,rfl⟩ ?_;rintro n0 st ⟨k,out,s,nx1,hk0,rfl,hL,hol,hbd,rfl⟩;by_cases hk1:(k:Int)<(N9:Int)
 ·refine awN ?_;simp only [F33,seval,ha,hb,hbad,hbadf,hk1];repeat refine ob ?_
  refine awT ?_;refine awK ?_;simp only [F33,seval];have hkl:k<l3.length:=by omega
  have hat:=vm hkl;rw [List.drop_eq_getElem_cons hkl,List.foldl_cons] at hL;have hdc:=hall l3[k] (hso.1.mem_iff.1 (List.getElem_mem hkl));have hbd2:(∀x∈rx out l3[k],0<=x.cts/\x.cts<=(k:Int)*1125899906842624+1125899906842624)/\(rx out l3[k]).length<=out.length+1:=Iv (by omega) hbd hdc;obtain ⟨d,hd⟩:∃d,l3[k]=d:=⟨_,rfl⟩;rw [hd] at hat hL hdc hbd2;simp only [dn] at hat;refine awN ?_;simp only [F33,seval,ha,hb,hbad,hbadf,hk1,hat];repeat refine ob ?_
  refine awN ?_;simp only [F33,seval,ha,hb,hbad,hbadf,hk1];repeat refine ob ?_
  by_cases hn:(0:Int)<(out.length:Int)
  ·obtain ⟨n1,hn1⟩:∃x,out.length=x+1:=⟨out.length-1,by omega⟩;have zn:(out.length:Int)-1=(n1:Int):=by omega
   have hnl:n1<out.length:=by omega
   have hato:=vm hnl;have hcto:=GN hnl;obtain ⟨x9,hx9⟩:∃x,at9 out n1=x:=⟨_,rfl⟩;have hxn:out[n1]=x9:=by rw [←hx9];exact (dx hnl).symm
   rw [hxn] at hato hcto;have hlo:=aS AF out;have hKp:=B5 x9 d;simp only [dn] at hato hKp;by_cases hk:FX x9 d=0
   ·refine awD (scT 0 9 (scq [18,21,23] .nil)) [0,0,0,77,77,77,77,77,77,77,77,0] ?_;simp only [F33,seval,ha,hb,hbad,hbadf,hk1,hn,zn,hato,hcto,hlo,hk,hato,hlo,zn,dn];repeat refine ob ?_
    refine ⟨_,hKp,rfl,?_⟩;try simp only [aq,F33,seval,ha,hb,hbad,hbadf,hk1,hn,zn,hato,hcto,hlo,hk,hato,hlo,zn,dn]
    repeat refine ob ?_
    refine awT ?_;have hct:=G1 out n1 (x9.cts+d.cts) hnl;rw [hxn] at hct;have hgb:=hbd x9 (by rw [←hxn];exact List.getElem_mem hnl);refine awD (scT 0 11 (scq [22] .nil)) [0,0,0,0,0,0,0,0,0,0,0,0] ?_;simp only [F33,seval,ha,hb,hbad,hbadf,hk1,hn,zn,hato,hcto,hlo,hk,hcto,hato,hlo,zn,hct,dn];repeat refine ob ?_
    refine awQ ?_;simp only [F33,seval];refine awN ?_;simp only [F33,seval,ha,hb,hbad,hbadf,hk1,hn,zn,hato,hcto,hlo,hk];repeat refine ob ?_
    repeat refine ob ?_
    have hstep:rx out d=(out.set n1 ⟨x9.deb,x9.par,x9.gnd,x9.cts+d.cts⟩):=by rw [Gt,dif_pos ⟨by omega,by rw [show out.length-1=n1 by omega,hx9];exact (GV x9 d).1 hk⟩,show out.length-1=n1 by omega,hx9]
    rw [hstep] at hL hbd2;refine ⟨_,aH [7,27,28,29] [61],N9-(k+1),by omega,k+1,(out.set n1 ⟨x9.deb,x9.par,x9.gnd,x9.cts+d.cts⟩),?sa23,?na23,by omega,rfl,hL,?ln23,?bd23,?st23⟩;case ln23=>(have:=hbd2.2;omega)
    case bd23=>(intro x h9;have:=hbd2.1 x h9;push_cast;omega)
    case st23=>(simp only [F33,seval,List.length_set];first|rfl|(simp;done))
   refine awD (scT 0 9 (scq [18,21,23] .nil)) [0,0,0,77,77,77,77,77,77,77,77,0] ?_;simp only [F33,seval,ha,hb,hbad,hbadf,hk1,hn,zn,hato,hcto,hlo,hk,hato,hlo,zn,dn];repeat refine ob ?_
   refine ⟨_,hKp,rfl,?_⟩;try simp only [aq,F33,seval,ha,hb,hbad,hbadf,hk1,hn,zn,hato,hcto,hlo,hk,hato,hlo,zn,dn]
   repeat refine ob ?_
   refine awF ?_;refine awK ?_;simp only [F33,seval];refine awN ?_;simp only [F33,seval,ha,hb,hbad,hbadf,hk1,hn,zn,hato,hcto,hlo,hk,dn];repeat refine ob ?_
   refine awN ?_;simp only [F33,seval,ha,hb,hbad,hbadf,hk1,hn,zn,hato,hcto,hlo,hk];repeat refine ob ?_
   repeat refine ob ?_
   have hstep:rx out d=(out++[d]):=by rw [Gt,dif_neg (fun h9=>hk ((GV x9 d).2 (by have:=h9.2;rwa [show out.length-1=n1 by omega,hx9] at this)))]
   rw [hstep] at hL hbd2;refine ⟨_,aH [7,27,28,29] [61],N9-(k+1),by omega,k+1,(out++[d]),?sa27,?na27,by omega,rfl,hL,?ln27,?bd27,?st27⟩;case ln27=>(have:=hbd2.2;omega)
   case bd27=>(intro x h9;have:=hbd2.1 x h9;push_cast;omega)
   case st27=>(simp only [F33,seval,ay,dn,List.length_append,List.length_cons,List.length_nil];first|rfl|(simp;done))
  refine awD (scT 0 9 (scq [18,21,23] .nil)) [0,0,0,77,77,77,77,77,77,77,77,0] ?_;simp only [F33,seval,ha,hb,hbad,hbadf,hk1,hn,dn];repeat refine ob ?_
  refine awF ?_;refine awK ?_;simp only [F33,seval];refine awN ?_;simp only [F33,seval,ha,hb,hbad,hbadf,hk1,hn,dn];repeat refine ob ?_
  refine awN ?_;simp only [F33,seval,ha,hb,hbad,hbadf,hk1,hn];repeat refine ob ?_
  repeat refine ob ?_
  have hstep:rx out d=(out++[d]):=by rw [Gt,dif_neg (fun h9=>absurd h9.1 (by omega))]
  rw [hstep] at hL hbd2;refine ⟨_,aH [7,27,28,29] [61],N9-(k+1),by omega,k+1,(out++[d]),?sa31,?na31,by omega,rfl,hL,?ln31,?bd31,?st31⟩;case ln31=>(have:=hbd2.2;omega)
  case bd31=>(intro x h9;have:=hbd2.1 x h9;push_cast;omega)
  case st31=>(simp only [F33,seval,ay,dn,List.length_append,List.length_cons,List.length_nil];first|rfl|(simp;done))
 refine awN ?_;simp only [F33,seval,ha,hb,hbad,hbadf,hk1];repeat refine ob ?_
 refine awF ?_;refine awQ ?_;simp only [F33,seval];have hk9:k=l3.length:=by omega
 rw [hk9,List.drop_length,List.foldl_nil] at hL;have hfo:out.filter nz=(a++b).foldl rb []:=by rw [hL];exact Hk 1125899906842624 (by decide) (a++b) l3 hso.1 hpw hall
 refine awR [64] [0,0,0] ?_;simp only [F33,seval,ha,hb,hbad,hbadf,hk1];repeat refine ob ?_
 refine ⟨_,IT out _ _ s out.length (fun y B hB=>?_) rfl (by omega) (by simp only [aj];rfl),?_⟩
 ·simp only [aj] at hB;repeat (split at hB;· omega)
  cases hB
 rintro res H' nx' rfl;rw [hfo];try simp only [aq,F33,seval,ha,hb,hbad,hbadf,hk1]
 repeat refine ob ?_
 by_cases h64:(64:Int)<(((a++b).foldl rb []).length:Int)
 ·refine awN ?_;simp only [F33,seval,ha,hb,hbad,hbadf,hk1,h64];repeat refine ob ?_
  refine awT ?_;refine awN ?_;simp only [F33,seval,ha,hb,hbad,hbadf,hk1,h64];repeat refine ob ?_
  refine rS 4 70 88 4 (by decide) (by rfl) ?_;refine awX ?_;have hR:mgT a b=([],2):=by unfold mgT;rw [if_neg (fun h9=>h9.elim ha hb),if_neg hbad,if_pos h64]
  rw [hR];simp only [F33,seval,mgV,av,ej];try simp
 refine awN ?_;simp only [F33,seval,ha,hb,hbad,hbadf,hk1,h64];repeat refine ob ?_
 refine awF ?_;refine awK ?_;simp only [F33,seval];refine awN ?_;simp only [F33,seval,ha,hb,hbad,hbadf,hk1,h64];repeat refine ob ?_
 refine awX ?_;have hR:mgT a b=((a++b).foldl rb [],0):=by unfold mgT;rw [if_neg (fun h9=>h9.elim ha hb),if_neg hbad,if_neg h64]
 rw [hR];simp only [F33,seval,mgV,ab aC]
end Go.Proofs.YtcgpghifhehlhaaGreatDoor
namespace Go.Proofs.YtcgpghifhehlhaaGreatDoor
open Go.RowKit Go.ChangeShapes Go.WideShapes Go.ChangeAt Go Go.Proofs.Tryz

end Go.Proofs.YtcgpghifhehlhaaGreatDoor
namespace Go.Proofs.YtcgpghifhehlhaaGreatDoor
open Go Go.RowKit Go.Proofs.Tryz
def D3 (st:St) (sz:Nat) (x:AV):Option (Nat×List C):=match x with
 | .val (.one (.lit (.slice none 0 0)))=>some (0,[])
 | .val (.one (.sh sz' n cs))=>if Nat.beq sz' sz then some (n,cs) else none
 |x=>match AX x with
  |some (nm,s,off,n,sz')=>match st.H nm with
   |some B=>if Nat.beq sz' sz&&(!(Nat.beq sz 0)&&Nat.beq B.st s) then some (n,(B.cs.drop (off*sz)).take (n*sz)) else none
   |none=>none
  |none=>none
def D4 (st:St) (sz:Nat) (E:TypeId) (x:AV):Option (Option Nat×Nat×List C):=match x with
 | .val (.one (.lit (.slice none 0 0)))=>some (none,0,[])
 |x=>match AX x with
  |some (nm,s,off,n,sz')=>match st.H nm with
   |some B=>if Nat.beq off 0&&(Nat.beq sz' sz&&(!(Nat.beq sz 0)&&(Nat.beq B.st s&&Nat.beq B.E E))) then some (some nm,n,B.cs.take (n*sz)) else none
   |none=>none
  |none=>none
section
variable {P : Program} {e : En} {k0 : Kx} {N : Nat} {st : St} {a : Act} {w : World} {σ : Nat → Value} {o : Oper} {x : AV}
theorem Dr (hW:RW e st.H st.nx σ w) {v:Value} {y:AV} (hy:aG (kx e st.H st.nx σ w) v y) {sz m:Nat} {ns:List C} (h:D3 st sz y=some (m,ns)):
  ∃ad c news,v= .slice ad m c/\denVs (kx e st.H st.nx σ w) news ns/\ns.length=m*sz/\m<=maxLen/\(m=0∨∃b off,ad=some ⟨b,off,none⟩/\∀j u,news[j]? =some u->w.cell? ⟨b,off+j,none⟩=some u):=by
 unfold D3 at h;split at h
 ·simp only [Option.some.injEq,Prod.mk.injEq] at h;obtain ⟨rfl,rfl⟩:=h;simp only [aG,bb,den] at hy;exact ⟨none,0,[],hy.1,trivial,by simp,by unfold maxLen;omega,.inl rfl⟩
 ·rename_i sz' n cs;split at h<;>try (cases h;done)
  rename_i hc;simp only [Option.some.injEq,Prod.mk.injEq] at h;obtain ⟨rfl,rfl⟩:=h;have hc:=Nat.eq_of_beq_eq_true hc;subst hc;exact ro (κ:=kx e st.H st.nx σ w) hW hy (by rfl) trivial
 split at h<;>try (cases h;done)
 rename_i nm s off n sz' hv;split at h<;>try (cases h;done)
 rename_i B hB;split at h<;>try (cases h;done)
 rename_i hc;simp only [Option.some.injEq,Prod.mk.injEq] at h;obtain ⟨rfl,rfl⟩:=h;simp only [Bool.and_eq_true,Bool.not_eq_true'] at hc;have hc1:=Nat.eq_of_beq_eq_true hc.1;subst hc1;obtain ⟨ad,cap,xs,k1,k2,k3,k4,k5,k6,k7,k8,k9,k10,k11⟩:=r6 hW hy hv hB (Nat.eq_of_beq_eq_true hc.2.2) (Av hc.2.1);have hle:off*sz'+n*sz'<=B.n*sz':=by rw [←Nat.add_mul];exact Nat.mul_le_mul_right _ k5
 have hd:=(k10.drop (off*sz')).take (n*sz');refine ⟨ad,cap,_,k1,hd,by rw [List.length_take,List.length_drop,k8,k4];omega,by omega,?_⟩;rcases k7 with k7|⟨b,q1,q2⟩
 ·exact .inl k7
 refine .inr ⟨b,off*sz',q2,fun j u hu=>?_⟩;rw [List.getElem?_take] at hu;split at hu<;>try (cases hu;done)
 rw [List.getElem?_drop] at hu;have:=k9.cells (g:=b) q1 (off*sz'+j) u hu;rw [add_lit] at this;simpa using this
theorem Ds (hW:RW e st.H st.nx σ w) {v:Value} {y:AV} (hy:aG (kx e st.H st.nx σ w) v y) {sz n E:Nat} {cs:List C} {kill:Option Nat} (h:D4 st sz E y=some (kill,n,cs)):
  ∃xs,w.ownsRow e.w0.heap.size E sz v n xs/\denVs (kx e st.H st.nx σ w) xs cs/\cs.length=n*sz/\(∀r,v.ownBlock=some r->∃nm B,kill=some nm/\obk (σ nm)=some r/\st.H nm=some B):=by
 unfold D4 at h;split at h
 ·simp only [Option.some.injEq,Prod.mk.injEq] at h;obtain ⟨rfl,rfl,rfl⟩:=h;simp only [aG,bb,den] at hy;rw [hy.1];exact ⟨[],w.ownsRow_nil _ _ _,trivial,by simp,fun r hr=>by cases hr⟩
 split at h<;>try (cases h;done)
 rename_i nm s off n' sz' hv;split at h<;>try (cases h;done)
 rename_i B hB;split at h<;>try (cases h;done)
 rename_i hc;simp only [Option.some.injEq,Prod.mk.injEq] at h;obtain ⟨rfl,rfl,rfl⟩:=h;simp only [Bool.and_eq_true,Bool.not_eq_true'] at hc;obtain ⟨c1,c2,c3,c4,c5⟩:=hc;have c1:=Nat.eq_of_beq_eq_true c1;have c2:=Nat.eq_of_beq_eq_true c2;have c5:=Nat.eq_of_beq_eq_true c5;subst c1;subst c2;obtain ⟨ad,cap,xs,k1,k2,k3,k4,k5,k6,k7,k8,k9,k10,k11⟩:=r6 hW hy hv hB (Nat.eq_of_beq_eq_true c4) (Av c3);have k6:=k6 rfl;have hml:n'*sz'<=B.n*sz':=Nat.mul_le_mul_right _ (by omega);rw [k4] at k8 k9;rw [←c5];refine ⟨xs.take (n'*sz'),?_,k10.take _,by rw [List.length_take,k8];omega,fun r hr=>⟨nm,B,rfl,?_,hB⟩⟩
 ·have hl:=k9.1;refine ⟨by rw [List.length_take];omega,?_⟩;rcases k9.2 with ⟨q1,q2⟩|⟨g,cap',cur,q1,q2,q3,q4,q5,q6,q7⟩
  ·rw [k6] at q1;simp only [Value.slice.injEq] at q1;obtain ⟨rfl,_,rfl⟩:=q1;have h0:n'=0:=by omega
   subst h0;exact .inl ⟨k1,rfl⟩
  rw [k6] at q1;simp only [Value.slice.injEq] at q1;obtain ⟨rfl,_,rfl⟩:=q1;refine .inr ⟨g,cap,cur,k1,q2,q3,k2,q5,q6,?_⟩;rw [←q7,List.take_take];congr 1;omega
 rw [k6];rw [k1] at hr;cases ad with
 |none=>simp [Value.ownBlock] at hr
 |some q=>simpa [Value.ownBlock,obk] using hr
def ES.re (s:ES) (kill:Option Nat) (d:Nat) (x:AV) (B:Blk):ES:=⟨s.tm.put d (some x),(match kill with|some nm=>s.H.put nm none|none=>s.H).put s.nx (some B),s.nx+1⟩
theorem ES.re_st (s:ES) (kill:Option Nat) (d:Nat) (x:AV) (B:Blk) (nb:Nat):(s.re kill d x B).st nb=⟨up s.tmF d x,up (up s.hF (kill.getD s.nx) none) s.nx (some B),s.nx+1,nb⟩:=by
 have h1:(s.re kill d x B).tmF=up s.tmF d x:=ES.tmF_put s d x;have h2:(s.re kill d x B).hF=up (up s.hF (kill.getD s.nx) none) s.nx (some B):=by
  cases kill with
  |none=>
   rw [Option.getD_none,mm];exact Ax s.H s.nx (some B)
  |some nm=>
   have h3:(fun n=>(s.H.put nm none).get n)=up s.hF nm none:=Ax s.H nm none;rw [Option.getD_some,←h3];exact Ax (s.H.put nm none) s.nx (some B)
 unfold ES.st;rw [h1,h2];rfl
def Bf (P:Program) (s:ES) (d:Nat) (args:Array Operand) (argTypes:Array TypeId):Option ES:=match args.toList,argTypes.toList with
 |[x,y],[t,t']=>match elT P t with
  |some (E,sz,by_)=>match zrT P E with
   |some zs=>bif Nat.beq t t'&&(Nat.beq zs.length sz&& !(Nat.beq sz 0)) then match D4 (s.st 0) sz E (ev (s.st 0) x),D3 (s.st 0) sz (ev (s.st 0) y) with
    |some (kill,n,cs),some (m,ns)=>bif decide ((n+m)*by_<=140737488355328)&&decide (n+m<=4611686018427387904) then some (s.re kill d (.val (.one (.own s.nx s.nx (n+m) sz))) ⟨s.nx,E,sz,n+m,cs++ns⟩) else none
    |_,_=>none
    else none
   |none=>none
  |none=>none
 |_,_=>none
theorem aa {b:Bool} {α:Type} {x:Option α} {y:α} (h:(bif b then x else none)=some y):b=true/\x=some y:=by
 cases b
 ·cases h
 exact ⟨rfl,h⟩
theorem BR {s s':ES} {d:Nat} {args:Array Operand} {argTypes:Array TypeId} {K:Act->World->Prop} {Q:Exit->Act->World->Prop} (hr:Rel e k0 N (s.st 0) a w) (hdst:o.dst=some d) (hdN:d<N) (hop:o.op= .call {callee:= .builtin .append,args,argTypes})
  (h:Bf P s d args argTypes=some s') (hK:∀a' w',Rel e k0 N (s'.st 0) a' w'->K a' w'):o.wp P a w K Q:=by
 obtain ⟨σ,h1,h2,h3⟩:=hr.ex;unfold Bf at h;split at h<;>try (cases h;done)
 rename_i x y t t' hargs htys;split at h<;>try (cases h;done)
 rename_i E sz by_ hel;split at h<;>try (cases h;done)
 rename_i zs hz;replace h:=aa h;obtain ⟨hc,h⟩:=h;simp only [Bool.and_eq_true,Bool.not_eq_true'] at hc;obtain ⟨c1,c2,c3⟩:=hc;have c1:=Nat.eq_of_beq_eq_true c1;have c2:=Nat.eq_of_beq_eq_true c2;subst c1;split at h<;>try (cases h;done)
 rename_i kill n cs m ns hd hs;replace h:=aa h;obtain ⟨hc,h⟩:=h;obtain rfl:=Option.some.inj h;simp only [Bool.and_eq_true,decide_eq_true_eq] at hc;have hx:=bc h2 x;have hy:=bc h2 y;obtain ⟨ad,c,news,e1,e2,e3,e4,e5⟩:=Dr h1 hy hs;obtain ⟨xs,g1,g2,g3,g4⟩:=Ds h1 hx hd;obtain ⟨v',w',r1,r2,r3,r4,r5⟩:=kI (ty:=o.type) hel (by rw [hz];rfl) (fun zs' hz'=>by rw [hz] at hz';cases hz';exact c2) (Nat.pos_of_ne_zero (Av c3)) g1 (by rw [e2.length];exact e3) e5 e2.one (by unfold maxLen;omega) hc.1 h1.size;have ha:args= #[x,y]:=Array.toList_inj.1 hargs;have hty:argTypes= #[t,t]:=Array.toList_inj.1 htys;obtain ⟨k1,k2⟩:=RW.new (nm0:=kill.getD s.nx) (d:=s.nx) h1 r4 (B':=⟨s.nx,E,sz,n+m,cs++ns⟩) rfl (Av c3) (by simp only [List.length_append,g3,e3,Nat.add_mul]) (fun r hr=>by
  obtain ⟨nm,B,f1,f2,f3⟩:=g4 r hr;subst f1;exact ⟨f2,B,f3⟩) (fun r hr=>by
  rw [kp r3] at hr;rcases r5 with h5|h5
  ·obtain ⟨nm,B,f1,f2,f3⟩:=g4 r (h5▸hr);subst f1;exact .inr ⟨f2,B,f3⟩
  rw [h5] at hr;cases hr;exact .inl (Nat.le_refl _)) r3 (g2.append e2)
 refine fv (v:=v') (w':=w') ?_ ?_
 ·have r1':=r1;simp only [execOp,hop,ha,hty,resolve,Sem.run_bind,Sem.run_pure,Result.andThen_ok,invoke,builtin,List.map_toArray,List.map_cons,List.map_nil,e1];rw [r1'];rfl
 rw [hdst];refine hK _ _ ?_;rw [ES.re_st];exact hr.put k1 h2 h3 k2 (cb s.nx σ w' r2) d hdN
def BS (P:Program) (s:ES) (d:Nat) (args:Array Operand) (argTypes:Array TypeId):Option ES:=match args.toList,argTypes.toList with
 |[x,y],[t,t']=>match ev (s.st 0) x,ev (s.st 0) y,elT P t,P.underlying t' with
  | .val (.one (.lit (.slice none 0 0))),.val (.one (.lit (.int _ n))),some (E,sz,by_),some (.int _)=>match zrT P E with
   |some zs=>bif Nat.beq zs.length sz&&(!(Nat.beq sz 0)&&(decide (0<n)&&(decide (n*by_<=140737488355328)&&decide (n<=4611686018427387904)))) then some (s.re none d (.val (.one (.own s.nx s.nx n.toNat sz))) ⟨s.nx,E,sz,n.toNat,eA n.toNat (zs.map .lit)⟩) else none
   |none=>none
  |_,_,_,_=>none
 |_,_=>none
theorem CF {s s':ES} {d:Nat} {args:Array Operand} {argTypes:Array TypeId} {K:Act->World->Prop} {Q:Exit->Act->World->Prop} (hr:Rel e k0 N (s.st 0) a w) (hdst:o.dst=some d) (hdN:d<N) (hd:d<=s.nx) (hop:o.op= .call {callee:= .builtin .append,args,argTypes})
  (h:BS P s d args argTypes=some s') (hK:∀a' w',Rel e k0 N (s'.st 0) a' w'->K a' w'):o.wp P a w K Q:=by
 have hr':Rel e k0 N (s.st (s.nx-d)) a w:=hr.nb _;have hnm:(s.st (s.nx-d)).nb+d=s.nx:=by show s.nx-d+d=s.nx;omega
 unfold BS at h;split at h<;>try (cases h;done)
 rename_i x y t t' hargs htys;split at h<;>try (cases h;done)
 rename_i k n E sz by_ kn h1 h2 h3 h4;split at h<;>try (cases h;done)
 rename_i zs hz;replace h:=aa h;obtain ⟨hc,h⟩:=h;obtain rfl:=Option.some.inj h;simp only [Bool.and_eq_true,Bool.not_eq_true',decide_eq_true_eq] at hc;have h1':ev (s.st (s.nx-d)) x= .val (.one (.lit (.slice none 0 0))):=by cases x<;>exact h1
 have h2':ev (s.st (s.nx-d)) y= .val (.one (.lit (.int k n))):=by cases y<;>exact h2
 refine t6 (p:=zs.length=sz/\sz≠0/\0<n/\n*by_<=140737488355328/\n<=4611686018427387904) (st':=⟨up (s.st (s.nx-d)).tm d (.val (.one (.own s.nx s.nx n.toNat sz))),up (s.st (s.nx-d)).H s.nx (some ⟨s.nx,E,sz,n.toNat,eA n.toNat (zs.map .lit)⟩),s.nx+1,s.nx-d⟩) hr' hdst hdN hop (by
  simp only [wC,hargs,htys,h1',h2',h3,h4,hz,hnm];rfl) ⟨Nat.eq_of_beq_eq_true hc.1,Av hc.2.1,hc.2.2.1,hc.2.2.2.1,hc.2.2.2.2⟩ fun a' w' hq=>hK a' w' ?_
 rw [ES.re_st,Option.getD_none,mm];exact hq.nb 0
def BT (P:Program) (s:ES) (d:Nat):Op->Option ES
 | .alloc t=>match zrT P t with
  |some zs=>bif !(Nat.beq zs.length 0) then some (s.re none d (.val (.one (.ptr s.nx s.nx 0))) ⟨s.nx,t,zs.length,1,zs.map .lit⟩) else none
  |none=>none
 | .box t x=>match cellsOf (ev (s.st 0) x) with
  |some cs=>bif !(Nat.beq cs.length 0) then some (s.re none d (.val (.one (.ptr s.nx s.nx 0))) ⟨s.nx,t,cs.length,1,cs⟩) else none
  |none=>none
 | .buildSlice t len parts=>match elT P t with
  |some (E,sz,_)=>bif Nat.beq len 0&&(Nat.beq parts.size 0&& !(Nat.beq sz 0)) then some (s.re none d (.val (.one (.own s.nx s.nx 0 sz))) ⟨s.nx,E,sz,0,[]⟩) else match zrT P E with
   |some zs=>bif AJ (fun i=>some (i*sz,sz)) (eA len (zs.map .lit)) (parts.toList.map fun q=>(q.1,ev (s.st 0) q.2)) then match j6 (fun i=>some (i*sz,sz)) (eA len (zs.map .lit)) (parts.toList.map fun q=>(q.1,ev (s.st 0) q.2)) with
    |some (_,r)=>bif Nat.beq zs.length sz&&(decide (0<len*sz)&&(decide (len*sz<=16777216)&&Nat.beq r.length (len*sz))) then some (s.re none d (.val (.one (.own s.nx s.nx len sz))) ⟨s.nx,E,sz,len,r⟩) else none
    |none=>none
    else none
   |none=>none
  |none=>none
 | .makeSlice t l c=>match ev (s.st 0) l,ev (s.st 0) c,elT P t with
  | .val (.one (.lit (.int _ n))),.val (.one (.lit (.int _ n'))),some (E,sz,by_)=>match zrT P E with
   |some zs=>bif decide (n=n')&&(!(Nat.beq sz 0)&&(Nat.beq zs.length sz&&(decide (0<=n)&&(decide ((by_:Int)*n<=281474976710656)&&decide (n<=4611686018427387904))))) then some (s.re none d (.val (.one (.own s.nx s.nx n.toNat sz))) ⟨s.nx,E,sz,n.toNat,eA n.toNat (zs.map .lit)⟩) else none
   |none=>none
  |_,_,_=>none
 |_=>none
theorem C6 (s:ES) (nb nb':Nat) (x:Operand):ev (s.st nb) x=ev (s.st nb') x:=by cases x<;>rfl
theorem C7 {s s':ES} {d:Nat} {op:Op} (hd:d<=s.nx) (h:BT P s d op=some s'):(∃p st',eff P (s.st (s.nx-d)) d op=some (p,st')/\p/\s'.st (s.nx-d)=st'/\((∀c,op≠ .call c)/\∀t x y,op≠ .store t x y))∨(∃t,op= .buildSlice t 0 #[]/\∃E sz by_,elT P t=some (E,sz,by_)/\sz≠0/\s'=s.re none d (.val (.one (.own s.nx s.nx 0 sz))) ⟨s.nx,E,sz,0,[]⟩):=by
 have hnm:s.nx-d+d=s.nx:=by omega
 have hst:(s.st (s.nx-d)).nb+d=s.nx:=hnm;cases op<;>simp only [BT,reduceCtorEq] at h;case alloc t=>
  split at h<;>try (cases h;done)
  rename_i zs hz;replace h:=aa h;obtain ⟨hc,h⟩:=h;obtain rfl:=Option.some.inj h;refine .inl ⟨_,_,by simp only [eff,hz];rfl,Av (by simpa using hc),?_,fun c hc=>(by cases hc),fun _ _ _ hc=>(by cases hc)⟩;rw [ES.re_st];simp only [ES.st,hnm,Option.getD_none,mm]
 case box t y=>
  split at h<;>try (cases h;done)
  rename_i cs hz;replace h:=aa h;obtain ⟨hc,h⟩:=h;obtain rfl:=Option.some.inj h;rw [C6 s 0 (s.nx-d)] at hz;refine .inl ⟨_,_,by simp only [eff,hz];rfl,Av (by simpa using hc),?_,fun c hc=>(by cases hc),fun _ _ _ hc=>(by cases hc)⟩;rw [ES.re_st];simp only [ES.st,hnm,Option.getD_none,mm]
 case buildSlice t len parts=>
  split at h<;>try (cases h;done)
  rename_i E sz by_ hel;cases hb:(Nat.beq len 0&&(Nat.beq parts.size 0&& !(Nat.beq sz 0))) with
  |true=>
   rw [hb] at h;simp only [cond_true] at h;obtain rfl:=Option.some.inj h;simp only [Bool.and_eq_true,Bool.not_eq_true'] at hb;have h0:=Nat.eq_of_beq_eq_true hb.1;have h1:=Array.eq_empty_of_size_eq_zero (Nat.eq_of_beq_eq_true hb.2.1);subst h0;subst h1;exact .inr ⟨t,rfl,E,sz,by_,hel,Av hb.2.2,rfl⟩
  |false=>
   rw [hb] at h;simp only [cond_false] at h;split at h<;>try (cases h;done)
   rename_i zs hz;replace h:=aa h;obtain ⟨hf,h⟩:=h;split at h<;>try (cases h;done)
   rename_i q r hr;replace h:=aa h;obtain ⟨hc,h⟩:=h;obtain rfl:=Option.some.inj h;simp only [Bool.and_eq_true,decide_eq_true_eq] at hc;have hev:(fun q:Nat×Operand=>(q.1,ev (s.st 0) q.2))=fun q=>(q.1,ev (s.st (s.nx-d)) q.2):=by funext q;rw [C6 s 0 (s.nx-d)]
   rw [hev] at hr hf;refine .inl ⟨q/\zs.length=sz/\0<len*sz/\len*sz<=16777216/\r.length=len*sz,_,by simp only [eff,hel,hz,hr];rfl,⟨rk hf hr,Nat.eq_of_beq_eq_true hc.1,hc.2.1,hc.2.2.1,Nat.eq_of_beq_eq_true hc.2.2.2⟩,?_,fun c hc=>(by cases hc),fun _ _ _ hc=>(by cases hc)⟩;rw [ES.re_st];simp only [ES.st,hnm,Option.getD_none,mm]
 case makeSlice t l c=>
  split at h<;>try (cases h;done)
  rename_i k1 n k2 n' E sz by_ h1 h2 h3;split at h<;>try (cases h;done)
  rename_i zs hz;replace h:=aa h;obtain ⟨hc,h⟩:=h;obtain rfl:=Option.some.inj h;simp only [Bool.and_eq_true,Bool.not_eq_true',decide_eq_true_eq] at hc;rw [C6 s 0 (s.nx-d)] at h1 h2;refine .inl ⟨n=n'/\sz≠0/\zs.length=sz/\0<=n/\(by_:Int)*n<=281474976710656/\n<=4611686018427387904,_,by simp only [eff,h1,h2,h3,hz];rfl,⟨hc.1,Av hc.2.1,Nat.eq_of_beq_eq_true hc.2.2.1,hc.2.2.2.1,hc.2.2.2.2.1,hc.2.2.2.2.2⟩,?_,fun c hc=>(by cases hc),fun _ _ _ hc=>(by cases hc)⟩;rw [ES.re_st];simp only [ES.st,hnm,Option.getD_none,mm]
theorem Ay {s s':ES} {d:Nat} {K:Act->World->Prop} {Q:Exit->Act->World->Prop} (hr:Rel e k0 N (s.st 0) a w) (hdst:o.dst=some d) (hdN:d<N) (hd:d<=s.nx) (h:BT P s d o.op=some s') (hK:∀a' w',Rel e k0 N (s'.st 0) a' w'->FL w w'->K a' w'):o.wp P a w K Q:=by
 have hr':Rel e k0 N (s.st (s.nx-d)) a w:=hr.nb _;rcases C7 hd h with ⟨p,st',h1,h2,rfl,h4,h5⟩|⟨t,hop,E,sz,by_,hel,hsz,rfl⟩
 ·exact CN hr' hdst hdN h1 h2 h4 h5 fun a' w' hq hF=>hK a' w' (hq.nb 0) hF
 obtain ⟨g1,i,g2,g3,g4⟩:=dZ hel;have hnm:(s.st (s.nx-d)).nb+d=s.nx:=by show s.nx-d+d=s.nx;omega
 refine kH (v:= .slice (some ⟨w.heap.size,0,none⟩) 0 0) (us:=[]) (cs:=[]) (E:=E) (sz:=sz) (n:=0) (x:= .val (.one (.own s.nx s.nx 0 sz))) hr' hdst hdN ?_ (fun σ _ k2=>trivial) hsz (by simp) (by unfold maxLen;omega) (fun σ w'=>?_) fun a' w' hq hF=>hK a' w' ?_ hF
 ·simp only [execOp,hop,Instr.buildSlice,Sem.run_bind,run_underlying g1,Result.andThen_ok,sizeOf,typeInfo,run_program,g2,g3,Sem.run_pure];have hz:Array.range 0= #[]:=by apply Array.eq_empty_of_size_eq_zero;simp
  simp [Instr.fill,newRow,hz]
 ·have:=cb (e:=e) (H:=(s.st (s.nx-d)).H) (nx:=s.nx) (E:=E) (sz:=sz) (n:=0) (cs:=[]) ((s.st (s.nx-d)).nb+d) (v:= .slice (some ⟨w.heap.size,0,none⟩) 0 0) σ w' rfl;rw [hnm] at this ⊢;exact this
 rw [ES.re_st];have hq':=hq.nb 0;rw [hnm] at hq';rw [Option.getD_none,mm];exact hq'
def BU (P:Program) (s:ES) (t:TypeId) (x y:Operand):Option ES:=match ev (s.st 0) x,cellsOf (ev (s.st 0) y),ldT P t with
 | .val (.one (.ptr nm s' off)),some ds,some (_,sz)=>match s.H.get nm with
  |some B=>bif Nat.beq B.st s'&&(Nat.beq ds.length sz&&decide (off+sz<=B.cs.length)) then some (s.putH nm ⟨B.st,B.E,B.sz,B.n,spl B.cs off ds⟩) else none
  |none=>none
 |_,_,_=>none
theorem CG {s s':ES} {t:TypeId} {x y:Operand} {K:Act->World->Prop} {Q:Exit->Act->World->Prop} (hr:Rel e k0 N (s.st 0) a w) (hdst:o.dst=none) (hop:o.op= .store t x y) (h:BU P s t x y=some s') (hK:∀a' w',Rel e k0 N (s'.st 0) a' w'->K a' w'):o.wp P a w K Q:=by
 unfold BU at h;split at h<;>try (cases h;done)
 rename_i nm s1 off ds ag sz h1 h2 h3;split at h<;>try (cases h;done)
 rename_i B hB;replace h:=aa h;obtain ⟨hc,h⟩:=h;obtain rfl:=Option.some.inj h;simp only [Bool.and_eq_true,decide_eq_true_eq] at hc;have hB':(s.st 0).H nm=some B:=hB;refine tY (p:=B.st=s1/\ds.length=sz/\off+sz<=B.cs.length) (d:=0) (st':=⟨(s.st 0).tm,up (s.st 0).H nm (some {B with cs:=spl B.cs off ds}),(s.st 0).nx,(s.st 0).nb⟩) hr hdst hop (by rw [hop];simp only [eff,h1,h2,h3,hB']) ⟨Nat.eq_of_beq_eq_true hc.1,Nat.eq_of_beq_eq_true hc.2.1,hc.2.2⟩ fun a' w' hq=>hK a' w' ?_
 have:(s.putH nm ⟨B.st,B.E,B.sz,B.n,spl B.cs off ds⟩).st 0=⟨(s.st 0).tm,up (s.st 0).H nm (some {B with cs:=spl B.cs off ds}),(s.st 0).nx,(s.st 0).nb⟩:=by
  have h5:=ES.hF_put s nm ⟨B.st,B.E,B.sz,B.n,spl B.cs off ds⟩;simp only [ES.st,h5];rfl
 rw [this];exact hq
end
end Go.Proofs.YtcgpghifhehlhaaGreatDoor
