/- insolvencyref1: Plus: walked. -/
import Derived.Test.YtokmkopihhnggaaGreatDoorNat16M
set_option linter.unusedVariables false
set_option maxHeartbeats 1000000
set_option maxRecDepth 100000
set_option linter.unusedSimpArgs false
namespace Go.Proofs.YtokmkopihhnggaaGreatDoor
open Go.RowKit Go.Proofs.Tryz
theorem C7 (a b:GRat) (h:a.num.size=0) (w:World):Calls prog 150 #[aE a,aE b] w fun e w'=>e= .returned (aE b)/\Below w.heap.size w w':=by
 have hz:a.num={data:= #[]}:=ByteArray.ext (Array.eq_empty_of_size_eq_zero h);unfold aE;rw [hz];clear h hz;go_enter func150,ntmps150
 go_wp2
 go_returns
 exact ⟨rfl,(((Below.refl _ _).alloc (Nat.le_refl _) _).alloc (by simp) _).alloc (by simp;omega) _⟩
theorem C8 (a b:GRat) (ha:¬a.num.size=0) (h:b.num.size=0) (w:World):Calls prog 150 #[aE a,aE b] w fun e w'=>e= .returned (aE a)/\Below w.heap.size w w':=by
 have hz:b.num={data:= #[]}:=ByteArray.ext (Array.eq_empty_of_size_eq_zero h);have hne:=dN ha;unfold aE;rw [hz];clear h hz ha;go_enter func150,ntmps150
 go_wp2
 go_returns
 exact ⟨rfl,(((Below.refl _ _).alloc (Nat.le_refl _) _).alloc (by simp) _).alloc (by simp;omega) _⟩
attribute [local go_sem ↓] Go.wp_at_zero Go.wp_at_succ
theorem C9 (p q:Rat) (m n:Nat) (w:World) (hp:qB m p) (hq:qB n q) (hm:m<=100000000000) (hn:n<=100000000000) (hp0:p≠0) (hq0:q≠0):
  Calls prog 150 #[aE (enc p),aE (enc q)] w fun e w'=>e= .returned (aE (enc (p+q)))/\Below w.heap.size w w':=by
 have hne1:=dN (fun h=>hp0 ((cg p).1 h));have hne2:=dN (fun h=>hq0 ((cg q).1 h));have es1:=ib hp;have es2:=ib hq;have H1:=hid (fun w=>By (enc p) w (by omega));have H2:=hid (fun w=>By (enc q) w (by omega));have H3:=hid (fun w=>iN (enc p).num w (by omega));have H4:=hid (fun w=>iN (enc q).num w (by omega));simp only [k6,k7] at H1 H2 H3 H4;have N1:NB m p.num.natAbs:=hp.1;have N2:NB m p.den:=hp.2;have N3:NB n q.num.natAbs:=hq.1;have N4:NB n q.den:=hq.2;have hd1:=p.den_pos;have hd2:=q.den_pos;have hs1:bi p=bi q->p+q=_:=fun h=>su h
 have hs2:bi p≠bi q->_->p+q=_:=fun h=>zF h
 have hs3:bi p≠bi q->_->p+q=_:=fun h=>zG h
 obtain ⟨X,hX⟩:∃X,X=p.num.natAbs*q.den:=⟨_,rfl⟩;obtain ⟨Y,hY⟩:∃X,X=q.num.natAbs*p.den:=⟨_,rfl⟩;obtain ⟨D,hD⟩:∃X,X=p.den*q.den:=⟨_,rfl⟩;have NX:NB (m+n) X:=by rw [hX];exact N1.mul N4
 have NY:NB (m+n) Y:=by rw [hY,Nat.add_comm];exact N3.mul N2
 have ND:NB (m+n) D:=by rw [hD];exact N2.mul N4
 have hD0:0<D:=by rw [hD];exact Nat.mul_pos hd1 hd2
 have T1:=hid (fun (w:World) (u v:Value)=>lW (w:=w) (u:=u) (v:=v) N1 N4 (by omega) (by omega));have T2:=hid (fun (w:World) (u v:Value)=>lW (w:=w) (u:=u) (v:=v) N3 N2 (by omega) (by omega));have T3:=hid (fun (w:World) (u v:Value)=>lW (w:=w) (u:=u) (v:=v) N2 N4 (by omega) (by omega));rw [←hX] at T1 hs1 hs2 hs3;rw [←hY] at T2 hs1 hs2 hs3;rw [←hD] at T3 hs1 hs2 hs3;have P1:=hid (fun (w:World) (u v:Value)=>JL (w:=w) (u:=u) (v:=v) NX NY (by omega) (by omega));have P2:=hid (fun (h:X<Y) (w:World) (u v:Value)=>C4 (w:=w) (u:=u) (v:=v) (y:=X) NY (by omega) (Nat.le_of_lt h));have P3:=hid (fun (h:Y<=X) (w:World) (u v:Value)=>C4 (w:=w) (u:=u) (v:=v) (y:=Y) NX (by omega) h);have R1:=hid (fun (w:World) (u v:Value)=>eL (bi p) u v (X+Y) D (m+n+1) w (NX.add NY) (ND.mono (by omega)) (by omega) hD0);have R2:=hid (fun (w:World) (u v:Value)=>eL (bi q) u v (Y-X) D (m+n) w (NY.le (Nat.sub_le _ _)) ND (by omega) hD0);have R3:=hid (fun (w:World) (u v:Value)=>eL (bi p) u v (X-Y) D (m+n) w (NX.le (Nat.sub_le _ _)) ND (by omega) hD0);have HS1:=hid hs1;have HS2:=hid hs2;have HS3:=hid hs3;have CO:=hid (fun (w:World) (u v:Value)=>Ie (x:=X) (y:=Y) (w:=w) (u:=u) (v:=v));have hx0:=hid (Bx3.new w (enc p) (enc q));have en1:(enc p).neg=bi p:=rfl;have en2:(enc q).neg=bi q:=rfl;generalize enc p=a at *
 generalize enc q=b at *
 generalize bi p=sp at *
 generalize bi q=sq at *
 unfold aE;clear hs1 hs2 hs3 hX hY hD NX NY ND N1 N2 N3 N4 hp hq hp0 hq0 es1 es2 hd1 hd2 hD0;subst en1 en2;go_enter func150,ntmps150
 go_wp2_with fail
 refine Calls.mono (H1.out _) ?_;rintro e w1 ⟨u1,rfl,hu1,hb1⟩;have hx1:=hx0.out.next hb1;obtain ⟨z0,z1,z2,z3,z4⟩:=hx1.2.1.facts;clear hx0 H1;go_wp2_with fail
 refine Calls.mono (H2.out _) ?_;rintro e w2 ⟨u2,rfl,hu2,hb2⟩;have hx2:=hx1.next hb2;have hu1:=hu1.below hb2;clear z0 z1 z2 z3 z4 hx1 H2;obtain ⟨z0,z1,z2,z3,z4⟩:=hx2.1.facts;go_wp2_with fail
 refine Calls.mono (H3.out _) ?_;rintro e w3 ⟨u3,rfl,hu3,hb3⟩;go_wp2_with fail
 refine Calls.mono (T1.out _ _ _ hu3 (hu2.below hb3)) ?_;rintro e w4 ⟨ux,rfl,hux,hb4⟩;have hx4:=(hx2.next hb3).next hb4;have hu1:=(hu1.below hb3).below hb4;have hu2:=(hu2.below hb3).below hb4;clear z0 z1 z2 z3 z4 hx2 H3 hu3;obtain ⟨z0,z1,z2,z3,z4⟩:=hx4.2.1.facts;go_wp2_with fail
 refine Calls.mono (H4.out _) ?_;rintro e w5 ⟨u4,rfl,hu4,hb5⟩;go_wp2_with fail
 refine Calls.mono (T2.out _ _ _ hu4 (hu1.below hb5)) ?_;rintro e w6 ⟨uy,rfl,huy,hb6⟩;have hx6:=(hx4.next hb5).next hb6;have hu1:=(hu1.below hb5).below hb6;have hu2:=(hu2.below hb5).below hb6;have hux:=(hux.below hb5).below hb6;clear z0 z1 z2 z3 z4 hx4 H4 hu4;go_wp2_with fail
 refine Calls.mono (T3.out _ _ _ hu1 hu2) ?_;rintro e w7 ⟨ud,rfl,hud,hb7⟩;have hx7:=hx6.next hb7;have hux:=hux.below hb7;have huy:=huy.below hb7;clear hx6 T1 T2 T3 hu1 hu2;obtain ⟨z0,z1,z2,z3,z4⟩:=hx7.1.facts;obtain ⟨y0,y1,y2,y3,y4⟩:=hx7.2.1.facts;by_cases hs:a.neg=b.neg
 ·have hk7:=hid (fun (W:World) (hb:Below w7.drew.heap.size w7.drew W)=>hx7.drew.next hb);have HD7:=hid hud.drew;have HX7:=hid hux.drew;have HY7:=hid huy.drew;clear hx7 hud hux huy;have hE:=hid (HS1.out hs);have e:(a.neg==b.neg)=true:=by simp [hs]
  clear hs y1 y2 y3 y4 HS2 HS3 R2 R3 P2 P3 CO HS1;go_wp2_with fail
  go_region_with (first
   |(go_at_call 188;refine Calls.mono (P1.out _ _ _ ?_ ?_) ?_;exact HX7.out;exact HY7.out;rintro e w8 ⟨r,rfl,hr,hb8⟩;have hx8:=hk7.out _ hb8;obtain ⟨x0,x1,x2,x3,x4⟩:=hx8.1.facts)
   |(go_at_call 176;refine Calls.mono (R1.out _ _ _ ?_ ?_) ?_;exact hr;exact HD7.out.below hb8;rintro e w9 ⟨rfl,hb9⟩;unfold aE;have hx9:=hx8.next hb9;obtain ⟨t0,t1,t2,t3,t4⟩:=hx9.2.2.1.facts))
  all_goals (go_wp2;refine bo (hx9.ret _).1 (fun W' c0 c1 c2=>by simp [results,Tryz.results150,go_sem,c0,c1,c2]) rfl ⟨?_,(hx9.ret _).2⟩;rw [hE.out])
 have e:(a.neg==b.neg)=false:=by simp [hs]
 have HSS:=hid hs;have CO7:=hid (CO.out _ _ _ hux huy);clear hs P1 R1 HS1;by_cases hl:X<Y
 ·have hE:=hid (HS2.out HSS.out hl);have P2':=hid (P2.out hl);rw [fx hl] at CO7;clear hl P2 P3 HS2 HS3 CO R3;go_wp2_with fail
  refine Calls.mono CO7.out ?_;rintro e8 w8 ⟨rfl,hb8⟩;have hx8:=hx7.next hb8;clear z0 z1 z2 z3 z4 y0 y1 y2 y3 y4;obtain ⟨z0,z1,z2,z3,z4⟩:=hx8.2.1.facts;have hk8:=hid (fun (W:World) (hb:Below w8.drew.heap.size w8.drew W)=>hx8.drew.next hb);have HD8:=hid (hud.below hb8).drew;have HX8:=hid (hux.below hb8).drew;have HY8:=hid (huy.below hb8).drew;clear hx8 hx7 hud hux huy CO7 hb8;go_wp2_with fail
  go_region_with (first
   |(go_at_call 190;refine Calls.mono (P2'.out _ _ _ ?_ ?_) ?_;exact HY8.out;exact HX8.out;rintro e w9 ⟨r,rfl,hr,hb9⟩;have hx9:=hk8.out _ hb9;obtain ⟨x0,x1,x2,x3,x4⟩:=hx9.2.1.facts)
   |(go_at_call 176;refine Calls.mono (R2.out _ _ _ ?_ ?_) ?_;exact hr;exact HD8.out.below hb9;rintro e wa ⟨rfl,hba⟩;unfold aE;have hxa:=hx9.next hba;obtain ⟨t0,t1,t2,t3,t4⟩:=hxa.2.2.1.facts))
  all_goals (go_wp2;refine bo (hxa.ret _).1 (fun W' c0 c1 c2=>by simp [results,Tryz.results150,go_sem,c0,c1,c2]) rfl ⟨?_,(hxa.ret _).2⟩;rw [hE.out])
 have hE:=hid (HS3.out HSS.out (Nat.le_of_not_lt hl));have P3':=hid (P3.out (Nat.le_of_not_lt hl));have hcn:¬bB X Y<0:=by unfold bB;rw [if_neg hl];split<;>omega
 clear hl P2 P3 HS2 HS3 CO R2;go_wp2_with fail
 refine Calls.mono CO7.out ?_;rintro e8 w8 ⟨rfl,hb8⟩;have hx8:=hx7.next hb8;clear z0 z1 z2 z3 z4 y0 y1 y2 y3 y4;obtain ⟨z0,z1,z2,z3,z4⟩:=hx8.1.facts;have hk8:=hid (fun (W:World) (hb:Below w8.drew.heap.size w8.drew W)=>hx8.drew.next hb);have HD8:=hid (hud.below hb8).drew;have HX8:=hid (hux.below hb8).drew;have HY8:=hid (huy.below hb8).drew;clear hx8 hx7 hud hux huy CO7 hb8;go_wp2_with fail
 go_region_with (first
  |(go_at_call 190;refine Calls.mono (P3'.out _ _ _ ?_ ?_) ?_;exact HX8.out;exact HY8.out;rintro e w9 ⟨r,rfl,hr,hb9⟩;have hx9:=hk8.out _ hb9;obtain ⟨x0,x1,x2,x3,x4⟩:=hx9.1.facts)
  |(go_at_call 176;refine Calls.mono (R3.out _ _ _ ?_ ?_) ?_;exact hr;exact HD8.out.below hb9;rintro e wa ⟨rfl,hba⟩;unfold aE;have hxa:=hx9.next hba;obtain ⟨t0,t1,t2,t3,t4⟩:=hxa.2.2.1.facts))
 all_goals (go_wp2;refine bo (hxa.ret _).1 (fun W' c0 c1 c2=>by simp [results,Tryz.results150,go_sem,c0,c1,c2]) rfl ⟨?_,(hxa.ret _).2⟩;rw [hE.out])
theorem sA (p q:Rat) (m n:Nat) (w:World) (hp:qB m p) (hq:qB n q) (hm:m<=100000000000) (hn:n<=100000000000):
  Calls prog 150 #[aE (enc p),aE (enc q)] w fun e w'=>e= .returned (aE (enc (p+q)))/\Below w.heap.size w w':=by
 by_cases h1:p=0
 ·subst h1;rw [Rat.zero_add];exact C7 _ _ ((cg 0).2 rfl) w
 by_cases h2:q=0
 ·subst h2;rw [Rat.add_zero];exact C8 _ _ (fun h=>h1 ((cg p).1 h)) ((cg 0).2 rfl) w
 exact C9 p q m n w hp hq hm hn h1 h2
end Go.Proofs.YtokmkopihhnggaaGreatDoor
