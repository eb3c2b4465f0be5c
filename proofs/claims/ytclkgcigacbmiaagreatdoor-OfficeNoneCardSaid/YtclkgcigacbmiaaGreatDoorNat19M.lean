/- natural: Compare: walked. -/
import Derived.Test.YtclkgcigacbmiaaGreatDoorNat7M
import Derived.Test.YtclkgcigacbmiaaGreatDoorEv4M
set_option linter.unusedVariables false
set_option maxHeartbeats 1000000
set_option maxRecDepth 100000
set_option linter.unusedSimpArgs false
namespace Go.Proofs.YtclkgcigacbmiaaGreatDoor
open Go.RowKit Go.Proofs.Tryz
theorem ew:∀(l r:List UInt8),l.length=r.length->Lib.compareBytes l r=aC (av l) (av r)
 |[],[],_=>by simp [Lib.compareBytes,aC,av]
 |[],_::_,h=>by simp at h
 |_::_,[],h=>by simp at h
 |a::l,b::r,h=>by
  have hl:l.length=r.length:=by simpa using h
  have ih:=ew l r hl;have h1:=cG l;have h2:=cG r;simp only [Lib.compareBytes];rw [ih,b6,b6,hl];rw [hl] at h1;have ha:(a<b)↔a.toNat<b.toNat:=UInt8.lt_iff_toNat_lt;have hb:(b<a)↔b.toNat<a.toNat:=UInt8.lt_iff_toNat_lt;generalize 256^r.length=P at *
  generalize av l=x at *
  generalize av r=y at *
  by_cases c1:a.toNat<b.toNat
  ·rw [if_pos (ha.2 c1)];have:=Nat.mul_le_mul_right P (show a.toNat+1<=b.toNat from c1);rw [Nat.add_mul] at this;unfold aC;rw [if_pos (by omega)]
  rw [if_neg (fun h=>c1 (ha.1 h))];by_cases c2:b.toNat<a.toNat
  ·rw [if_pos (hb.2 c2)];have:=Nat.mul_le_mul_right P (show b.toNat+1<=a.toNat from c2);rw [Nat.add_mul] at this;unfold aC;rw [if_neg (by omega),if_pos (by omega)]
  rw [if_neg (fun h=>c2 (hb.1 h))];have:a.toNat=b.toNat:=by omega
  rw [this];generalize b.toNat*P=q;unfold aC;simp only [Nat.add_lt_add_iff_left]
theorem jz {x y:Nat} (h:(ae x).size=(ae y).size):Lib.compareBytes (ae x).data.toList (ae y).data.toList=aC x y:=by
 rw [aL,aL] at h;have:=ew (aI x) (aI y) h;rw [bN,bN] at this;simpa [ae] using this
theorem dG {x y:Nat} (h:x<=y):(aI x).length<=(aI y).length:=aA (Nat.lt_of_le_of_lt h (eO y))
theorem mK {x y:Nat} (h:(ae x).size≠(ae y).size):dP (((ae x).size:Int)-((ae y).size:Int))=aC x y:=by
 rw [aL,aL] at *
 unfold dP aC;by_cases c:x<y
 ·have:=dG (Nat.le_of_lt c);rw [if_pos c,if_pos (by omega)]
 have:=dG (Nat.le_of_not_lt c);rw [if_neg c,if_neg (by omega)];by_cases d:y<x
 ·rw [if_pos d];try rw [if_pos (by omega)]
 exfalso;have:x=y:=by omega
 subst this;exact h rfl
theorem bG (s:ByteArray):(ae (ac s)).size<=s.size:=by rw [aL];exact aA (bD s)
theorem ir (a b:ByteArray) (w:World) (ha:a.size<=maxLen) (hb:b.size<=maxLen):
  Calls prog 169 #[.string a,.string b] w fun e w'=>e= .returned (.int .i64 (aC (ac a) (ac b)))/\w=w':=by
 have H1:=hid (aH a w ha);have H2:=hid (aH b w hb);have sa:=bG a;have sb:=bG b;have hmx:(maxLen:Nat)<=9223372036854775807:=by unfold maxLen;omega
 have hsa:(ae (ac a)).size<=9223372036854775807:=by omega
 have hsb:(ae (ac b)).size<=9223372036854775807:=by omega
 by_cases h:(ae (ac a)).size=(ae (ac b)).size
 ·have HC:=hid (Tryz.strings_Compare (ae (ac a)) (ae (ac b)) w);rw [jz h] at HC;generalize aC (ac a) (ac b)=c at *
  generalize ae (ac a)=x at *
  generalize ae (ac b)=y at *
  have hxy:¬((x.size:Int)≠(y.size:Int)):=by omega
  clear sa sb ha hb hmx;go_enter func169,ntmps169
  go_wp2_with fail
  refine Calls.mono H1.out ?_;rintro e w1 ⟨rfl,rfl⟩;go_wp2_with fail
  refine Calls.mono H2.out ?_;rintro e w1 ⟨rfl,rfl⟩;go_wp2_with fail
  refine Calls.mono HC.out ?_;rintro e w1 ⟨rfl,rfl⟩;go_wp2
  go_ret
  exact ⟨rfl,rfl⟩
 have HC:=hid (jr (((ae (ac a)).size:Int)-((ae (ac b)).size:Int)) w);rw [mK h] at HC;generalize aC (ac a) (ac b)=c at *
 generalize ae (ac a)=x at *
 generalize ae (ac b)=y at *
 have hxy:((x.size:Int)≠(y.size:Int)):=by omega
 clear sa sb ha hb hmx h;go_enter func169,ntmps169
 go_wp2_with fail
 refine Calls.mono H1.out ?_;rintro e w1 ⟨rfl,rfl⟩;go_wp2_with fail
 refine Calls.mono H2.out ?_;rintro e w1 ⟨rfl,rfl⟩;go_wp2_with fail
 refine Calls.mono HC.out ?_;rintro e w1 ⟨rfl,rfl⟩;go_wp2
 go_ret
 exact ⟨rfl,rfl⟩
end Go.Proofs.YtclkgcigacbmiaaGreatDoor
namespace Go.Proofs.YtclkgcigacbmiaaGreatDoor
open Go Go.RowKit Go.Proofs.Tryz
def nbF:Nat->Nat->List UInt8->List UInt8
 |0,_,acc=>acc
 |f+1,n,acc=>bif Nat.beq n 0 then acc else nbF f (n/256) (UInt8.ofNat (n%256)::acc)
theorem rj:∀(f n:Nat) (acc:List UInt8),n<=f->nbF f n acc=aI n++acc
 |0,n,acc,h=>by
  obtain rfl:n=0:=by omega
  rw [aU];rfl
 |f+1,n,acc,h=>by
  simp only [nbF,kO];by_cases h0:n=0
  ·subst h0;rw [aU];rfl
  simp only [h0,decide_false,cond_false];rw [rj f _ _ (by omega),bU h0];simp
def eh (n:Nat):ByteArray:=⟨⟨nbF n n []⟩⟩
theorem gt (n:Nat):eh n=ae n:=by
 unfold eh ae;rw [rj n n [] (Nat.le_refl _),List.append_nil]
def small (s:ByteArray):Bool:=Nat.ble s.data.toList.length 1000000
theorem eR {s:ByteArray} (h:small s=true):s.size<=1000000:=by
 have:=Nat.le_of_ble_eq_true h;simpa using this
theorem eS {P:Program} {f:FuncId} (hfn:kG P f) (vals rs:List Value) (h:∀w,Calls P f vals.toArray w fun e w'=>e= .returned (.tuple rs.toArray)/\Below w.heap.size w w') (hr:∀v∈rs,v.oneCell'=true):
  ACall P f (vals.map mt) (.tup (rs.map fun v=> .one (.lit v))):=
 ⟨hfn,fun w T vs _ hd=>by
  rw [fS hd];refine (h w).mono fun e w' ⟨he,hb⟩=>⟨_,he,hb,rs,rfl,?_⟩
  have key:∀rs:List Value,(∀v∈rs,v.oneCell'=true)->∀κ,aP κ rs (rs.map fun v=> .one (.lit v)):=by
   intro rs;induction rs with
   |nil=>intro _ κ;trivial
   |cons v rs ih=>
    intro h κ;refine ⟨?_,ih (fun u hu=>h u (by simp [hu])) κ⟩;simp only [ar,den];exact ⟨trivial,h v (by simp)⟩
  exact key rs hr _⟩
theorem wH (s:ByteArray) (hs:s.size<=1000000):ACall prog 265 [.one (.lit (.string s))] (one (.string (ae (ac s)))):=
 aJ (aV func265 (by decide) (by kernel_rfl)) [.string s] (.string (ae (ac s))) fun w=>(aH s w (by unfold maxLen;omega)).mono fun e w' ⟨h1,h2⟩=>⟨h1,h2▸Below.refl _ _⟩
theorem wI (u:Nat) (h:u<18446744073709551616):ACall prog 278 [.one (.lit (.int .u64 u))] (one (.string (ae u))):=
 aJ (aV func278 (by decide) (by kernel_rfl)) [.int .u64 u] (.string (ae u)) fun w=>gk u w h
theorem x5 (a b:ByteArray) (ha:a.size<=1000000) (hb:b.size<=1000000):ACall prog 169 [.one (.lit (.string a)),.one (.lit (.string b))] (one (.int .i64 (aC (ac a) (ac b)))):=
 aJ (aV func169 (by decide) (by kernel_rfl)) [.string a,.string b] (.int .i64 (aC (ac a) (ac b))) fun w=>(ir a b w (by unfold maxLen;omega) (by unfold maxLen;omega)).mono fun e w' ⟨h1,h2⟩=>⟨h1,h2▸Below.refl _ _⟩
theorem x6 (a b:ByteArray) (ha:a.size<=1000000) (hb:b.size<=1000000):ACall prog 270 [.one (.lit (.string a)),.one (.lit (.string b))] (one (.string (ae (ac a+ac b)))):=
 aJ (aV func270 (by decide) (by kernel_rfl)) [.string a,.string b] (.string (ae (ac a+ac b))) fun w=>oR a b w (by omega) (by omega)
theorem tu (a b:ByteArray) (ha:a.size<=1000000) (hb:b.size<=1000000):ACall prog 170 [.one (.lit (.string a)),.one (.lit (.string b))] (one (.string (ae (ac a*ac b)))):=
 aJ (aV func170 (by decide) (by kernel_rfl)) [.string a,.string b] (.string (ae (ac a*ac b))) fun w=>bj a b w (by omega) (by omega)
theorem x7 (a b:ByteArray) (ha:a.size<=1000000) (hb:b.size<=1000000):ACall prog 276 [.one (.lit (.string a)),.one (.lit (.string b))] (one (.string (ae (Nat.gcd (ac a) (ac b))))):=
 aJ (aV func276 (by decide) (by kernel_rfl)) [.string a,.string b] (.string (ae (Nat.gcd (ac a) (ac b)))) fun w=>ll a b w (by omega) (by omega)
theorem x8 (a b:ByteArray) (ha:a.size<=1000000) (hb:b.size<=1000000) (h:0<ac b):ACall prog 277 [.one (.lit (.string a)),.one (.lit (.string b))] (.tup [.one (.lit (.string (ae (ac a/ac b)))),.one (.lit (.string (ae (ac a%ac b)))),.one (.lit (.bool true))]):=
 eS (aV func277 (by decide) (by kernel_rfl)) [.string a,.string b] [.string (ae (ac a/ac b)),.string (ae (ac a%ac b)),.bool true] (fun w=>gX a b w (by omega) (by omega) h) (by simp [Value.oneCell'])
theorem x9 (a b:ByteArray) (ha:a.size<=1000000) (hb:b.size<=1000000) (h:ac b<=ac a):ACall prog 271 [.one (.lit (.string a)),.one (.lit (.string b))] (.tup [.one (.lit (.string (ae (ac a-ac b)))),.one (.lit (.bool true))]):=
 eS (aV func271 (by decide) (by kernel_rfl)) [.string a,.string b] [.string (ae (ac a-ac b)),.bool true] (fun w=>eP a b w (by omega) (by omega) h) (by simp [Value.oneCell'])
theorem tv (a b:ByteArray) (ha:a.size<=1000000) (hb:b.size<=1000000) (h:ac a<ac b):ACall prog 271 [.one (.lit (.string a)),.one (.lit (.string b))] (.tup [.one (.lit (.string ⟨#[]⟩)),.one (.lit (.bool false))]):=
 eS (aV func271 (by decide) (by kernel_rfl)) [.string a,.string b] [.string ⟨#[]⟩,.bool false] (fun w=>ip a b w (by omega) (by omega) h) (by simp [Value.oneCell'])
def tw (f : FuncId) (ys : List A1) : Option AV := match ys with
  | [.one (.lit (.string a))] => bif Nat.beq f 265 && small a then some (one (.string (eh (ac a)))) else none
  | [.one (.lit (.int .u64 n))] => bif Nat.beq f 278 && (decide (0 ≤ n) && decide (n < 18446744073709551616)) then some (one (.string (eh n.toNat))) else none
  | [.one (.lit (.string a)), .one (.lit (.string b))] => bif small a && small b then
      bif Nat.beq f 170 then some (one (.string (eh (ac a * ac b))))
      else bif Nat.beq f 270 then some (one (.string (eh (ac a + ac b))))
      else bif Nat.beq f 276 then some (one (.string (eh (Nat.gcd (ac a) (ac b)))))
      else bif Nat.beq f 169 then some (one (.int .i64 (bif Nat.blt (ac a) (ac b) then -1 else bif Nat.blt (ac b) (ac a) then 1 else 0)))
      else bif Nat.beq f 277 then (bif Nat.blt 0 (ac b) then some (.tup [.one (.lit (.string (eh (ac a / ac b)))), .one (.lit (.string (eh (ac a % ac b)))), .one (.lit (.bool true))]) else none)
      else bif Nat.beq f 271 then (bif Nat.ble (ac b) (ac a) then some (.tup [.one (.lit (.string (eh (ac a - ac b)))), .one (.lit (.bool true))]) else some (.tup [.one (.lit (.string ⟨#[]⟩)), .one (.lit (.bool false))]))
      else none
      else none
  | _ => none
theorem oU (f:FuncId) (ys:List A1) (res:AV) (h:tw f ys=some res):ACall prog f ys res:=by
 unfold tw at h;split at h<;>try (cases h;done)
 ·rename_i a;replace h:=am h;obtain ⟨hc,h⟩:=h;simp only [Bool.and_eq_true] at hc;obtain rfl:=Option.some.inj h;obtain rfl:=Nat.eq_of_beq_eq_true hc.1;rw [gt];exact wH a (eR hc.2)
 ·rename_i n;replace h:=am h;obtain ⟨hc,h⟩:=h;simp only [Bool.and_eq_true,decide_eq_true_eq] at hc;obtain rfl:=Option.some.inj h;obtain rfl:=Nat.eq_of_beq_eq_true hc.1;obtain ⟨m,rfl⟩:∃m:Nat,n=m:=⟨n.toNat,by omega⟩;rw [gt];exact wI m (by omega)
 rename_i a b;replace h:=am h;obtain ⟨hc,h⟩:=h;simp only [Bool.and_eq_true] at hc;have ha:=eR hc.1;have hb:=eR hc.2;simp only [kO,cond_eq_ite,decide_eq_true_eq,Nat.blt_eq,Nat.ble_eq,gt] at h;split at h
 ·rename_i hf;subst hf;obtain rfl:=Option.some.inj h;exact tu a b ha hb
 split at h
 ·rename_i hf;subst hf;obtain rfl:=Option.some.inj h;exact x6 a b ha hb
 split at h
 ·rename_i hf;subst hf;obtain rfl:=Option.some.inj h;exact x7 a b ha hb
 split at h
 ·rename_i hf;subst hf;obtain rfl:=Option.some.inj h;exact x5 a b ha hb
 split at h
 ·rename_i hf;subst hf;split at h<;>try (cases h;done)
  rename_i h0;obtain rfl:=Option.some.inj h;exact x8 a b ha hb h0
 split at h
 ·rename_i hf;subst hf;split at h
  ·rename_i h0;obtain rfl:=Option.some.inj h;exact x9 a b ha hb h0
  rename_i h0;obtain rfl:=Option.some.inj h;exact tv a b ha hb (by omega)
 cases h
def yb (f:FuncId):Bool:=Nat.beq f 265||(Nat.beq f 278||(Nat.beq f 170||(Nat.beq f 270||(Nat.beq f 276||(Nat.beq f 169||(Nat.beq f 277||Nat.beq f 271))))))
theorem mL : (prog.fieldsOf 48).toList = [⟨"Neg", 4, 0, false, "", "", 0⟩, ⟨"Num", 9, 1, false, "", "", 8⟩, ⟨"Den", 9, 2, false, "", "", 24⟩] := by kernel_rfl
theorem nF:ldT prog 4=some (false,1):=by kernel_rfl
theorem lm:ldT prog 9=some (false,1):=by kernel_rfl
theorem jA (cs:Array Value) (i:Nat) (v:Value) (h:cs[i]? =some v) (w:World):(part 4 cs i).run prog w= .ok v w:=by
 simp [part,(e6 nF w).1,h]
theorem fo (cs:Array Value) (i:Nat) (v:Value) (h:cs[i]? =some v) (w:World):(part 9 cs i).run prog w= .ok v w:=by
 simp [part,(e6 lm w).1,h]
theorem tx (a b:GRat):iT prog 48 [.bool a.neg,.string a.num,.string a.den] [.bool b.neg,.string b.num,.string b.den]:=fun w=>⟨by
 obtain ⟨x,y,z⟩:=a;obtain ⟨x',y',z'⟩:=b;have h2:=run_equalIn_agg (P:=prog) w 9999 48 #[.bool x,.string y,.string z] #[.bool x',.string y',.string z'] (by kernel_rfl) (by kernel_rfl);have h3:(Op.equal 48 (.agg #[.bool x,.string y,.string z]) (.agg #[.bool x',.string y',.string z'])).run prog w=(Op.equalIn (9999+1) 48 (.agg #[.bool x,.string y,.string z]) (.agg #[.bool x',.string y',.string z'])).run prog w:=rfl;have hb:=fun (a b:Bool)=>run_equalIn_bool' (P:=prog) w 9998 4 a b (by kernel_rfl)
 have hs:∀a b:ByteArray,_:=fun (a b:ByteArray)=>(qt a b)▸run_equalIn_string (P:=prog) w 9998 9 a b (by kernel_rfl)
 have p0:=jA #[.bool x,.string y,.string z] 0 _ rfl w;have p1:=fo #[.bool x,.string y,.string z] 1 _ rfl w;have p2:=fo #[.bool x,.string y,.string z] 2 _ rfl w;have q0:=jA #[.bool x',.string y',.string z'] 0 _ rfl w;have q1:=fo #[.bool x',.string y',.string z'] 1 _ rfl w;have q2:=fo #[.bool x',.string y',.string z'] 2 _ rfl w;show (Op.equal 48 (.agg #[.bool x,.string y,.string z]) (.agg #[.bool x',.string y',.string z'])).run prog w=_;rw [h3,h2,mL];have n1 : ¬ "Neg" = "_" := by decide
 have n2 : ¬ "Num" = "_" := by decide
 have n3 : ¬ "Den" = "_" := by decide
 by_cases e1:x=x'
 ·subst e1;by_cases e2:y=y'
  ·subst e2;by_cases e3:z=z'
   ·subst e3;simp only [Op.eqFields,ne_eq,n1,n2,n3,not_false_eq_true,if_true,Sem.run_bind,p0,Result.andThen_ok];simp [hb,hs,p1,p2,fD,eqV]
   simp only [Op.eqFields,ne_eq,n1,n2,n3,not_false_eq_true,if_true,Sem.run_bind,p0,q0,Result.andThen_ok];simp [hb,hs,p1,p2,q1,q2,fD,eqV,e3]
  simp only [Op.eqFields,ne_eq,n1,n2,n3,not_false_eq_true,if_true,Sem.run_bind,p0,q0,Result.andThen_ok];simp [hb,hs,p1,q1,fD,eqV,e2]
 simp only [Op.eqFields,ne_eq,n1,n2,n3,not_false_eq_true,if_true,Sem.run_bind,p0,q0,Result.andThen_ok];simp [hb,fD,eqV,e1],by kernel_rfl⟩
def wJ (t:TypeId) (us vs:List Value):Bool:=match us,vs with
 |[.bool _,.string _,.string _],[.bool _,.string _,.string _]=>Nat.beq t 48
 |_,_=>false
theorem tz (t:TypeId) (us vs:List Value) (h:wJ t us vs=true):iT prog t us vs:=by
 unfold wJ at h;split at h<;>try (cases h;done)
 rename_i a b c a' b' c';rw [Nat.eq_of_beq_eq_true h];exact tx ⟨a,b,c⟩ ⟨a',b',c'⟩
end Go.Proofs.YtclkgcigacbmiaaGreatDoor
namespace Go.Proofs.YtclkgcigacbmiaaGreatDoor
open Go.RowKit Go.Proofs.Tryz
theorem rGrow.append {α:Type} {E:TypeId} {R:cr α} (hR:Stays R) {base:Nat} {w w':World} {v v':Value} {l ys:List α} {news:List Value} (h3:∀xs,w.ownsRow base E 1 v l.length xs->w'.ownsRow base E 1 v' (l.length+ys.length) (xs++news))
  (h:rGrow E 1 R base w v l) (hn:news.length=ys.length) (hg:w.grownBy w' v.ownBlock) (hv:v'.ownBlock=v.ownBlock∨v'.ownBlock=some w.heap.size) (hx:∀j (hj:j<ys.length),R w (eB w v) [news[j]'(by omega)] ys[j]):rGrow E 1 R base w' v' (l++ys):=by
 obtain ⟨xs,h1,h2⟩:=h;have h4:=h3 xs h1;have hst:∀cs (a:α),R w (eB w v) cs a->R w' (eB w' v') cs a:=fun cs a hr=>hR _ _ _ _ _ _ hr (fun b hb=>hg.block b hb.1 hb.2) fun b hb=>by
  refine ⟨Nat.lt_of_lt_of_le hb.1 hg.size,?_⟩;rcases hv with hv|hv
  ·rw [hv];exact hb.2
  rw [hv];intro e;have:=Option.some.inj e;have:=hb.1;omega
 refine ⟨xs++news,by simpa using h4,fun j hj=>?_⟩;have hlen:=h1.1;rw [Nat.mul_one] at hlen ⊢;by_cases hj':j<l.length
 ·rw [List.getElem_append_left hj',List.drop_append_of_le_length (by omega),List.take_append_of_le_length (by simp;omega)];have:=h2 j hj';rw [Nat.mul_one] at this;exact hst _ _ this
 have hj2:j-l.length<ys.length:=by simp at hj;omega
 rw [List.getElem_append_right (by omega)];have e:((xs++news).drop j).take 1=[news[j-l.length]'(by omega)]:=by
  rw [List.drop_append,hlen,List.drop_of_length_le (by omega),List.nil_append];have hq:j-l.length<news.length:=by omega
  rw [List.drop_eq_getElem_cons hq];rfl
 rw [e];exact hst _ _ (hx _ hj2)
theorem ln {α:Type} {P:Program} (w:World) {ops:Array Oper} {rest:List Oper} {o:Oper} {a:Act} {Q:Exit->Act->World->Prop} (hgd:o.guard=none) (s x:Operand) (t:TypeId)
  (ho:o.op= .call {callee:= .builtin .append,args:= #[s,x],argTypes:= #[t,t]})
  {R:cr α} (hR:Stays R) (base E bytes:Nat) (z:Value) (ht:P.underlying t=some (.slice E)) (hi:(P.info? E).map (fun i=>(i.zero,i.size,i.bytes))=some (some z,1,bytes)) (hzs:z.cells.size=1)
  (v:Value) (l ys:List α) (hs:a.eval s=v) (hv:rGrow E 1 R base w v l) (hbase:base<=w.heap.size) (hbytes:(l.length+ys.length)*bytes<=140737488355328) (h63:l.length+ys.length<=9223372036854775807) (hm:0<ys.length)
  (b c:Nat) (news:List Value) (hx:a.eval x= .slice (some ⟨b,0,none⟩) ys.length c) (hl:news.length=ys.length) (hb:∃fz,w.heap[b]? =some (.cells news.toArray E fz)) (h1:news.all Value.oneCell'=true)
  (hy:∀j (hj:j<ys.length),R w (eB w v) [news[j]'(by omega)] ys[j])
  (h:∀v' w',rGrow E 1 R base w' v' (l++ys)->w.grownBy w' v.ownBlock->Below base w w'->wpList P ops Q rest (a.put o.dst v') w'):wpList P ops Q (o::rest) a w:=by
 refine wpList_plain hgd fun K hK=>?_
 obtain ⟨i,hi1,hi2,hi3,hi4⟩:=info_parts hi;obtain ⟨xs,hxs,hel⟩:=hv;obtain ⟨fz,hb⟩:=hb;have hnews:∀j u,news[j]? =some u->w.cell? ((⟨b,0,none⟩:Addr).add j)=some u:=by
  intro j u hu;have hadd:(⟨b,0,none⟩:Addr).add j=⟨b,j,none⟩:=by unfold Addr.add;split<;>simp_all
  rw [hadd];simp [World.cell?,hb,hu]
 obtain ⟨v',w',hr,h2,h3,h4⟩:=fY (P:=P) w base t o.type E i z 1 bytes ht hi1 hi2 hi3 hi4 hzs (by decide) v l.length xs hxs ⟨b,0,none⟩ ys.length c news (by omega) hnews (fun u hu=>List.all_eq_true.1 h1 u hu) (by unfold maxLen;omega) (by omega) hbase (by omega);have hrow:∀k,v.ownBlock=some k->base<=k:=fun k hk=>(hxs.lt k hk).1
 have hbel:Below base w w':=(Below.refl base w).grown h3 hbase hrow;refine ?_;unfold Oper.wp execOp;simp only [ho,resolve,invoke,builtin,Sem.run_bind,Sem.run_pure,Result.andThen_ok,List.map_toArray,List.map_cons,List.map_nil,hs,hx,hr];refine hK _ _ (h v' w' ?_ h3 hbel);refine rGrow.append hR (news:=news) (fun xs' hxs'=>?_) ⟨xs,hxs,hel⟩ hl h3 h4 hy;have:xs'=xs:=by
  rcases hxs'.2 with ⟨e1,e2⟩|⟨g,cap,cur,e1,_,hg,_,_,_,ht'⟩
  ·have:=hxs.1;have:=hxs'.1;rw [e2] at *
   rw [List.eq_nil_of_length_eq_zero (by omega:xs.length=0),List.eq_nil_of_length_eq_zero (by omega:xs'.length=0)]
  rcases hxs.2 with ⟨f1,_⟩|⟨g',cap',cur',f1,_,hg',_,_,_,ht''⟩
  ·rw [f1] at e1;cases e1
  rw [f1] at e1;injection e1 with e1 _ _
  injection e1 with e1
  injection e1 with e1
  subst e1;rw [hg] at hg';injection hg' with hg'
  injection hg' with hg' _ _
  rw [←ht',←ht'',hg']
 rw [this];exact h2
theorem rk {P:Program} {t e:TypeId} {z:Value} {sz bytes:Nat} (ht:P.underlying t=some (.slice e)) (hi:(P.info? e).map (fun i=>(i.zero,i.size,i.bytes))=some (some z,sz,bytes))
  (w:World) (n:Nat) (hb:bytes*n<=281474976710656) (hn:n<=9223372036854775807):
  (Instr.makeSlice t (.int .i64 0) (.int .i64 n)).run P w= .ok (.slice (some ⟨w.heap.size,0,none⟩) 0 n) (w.alloc (.cells (madeCells z.cells (n*sz)) e)):=by
 obtain ⟨i,hi1,hi2,hi3,hi4⟩:=info_parts hi;have h:=run_make (P:=P) w t e i z ht hi1 hi2 .i64 .i64 0 n (by omega) (by omega) (by rw [hi4];omega) (by omega);rw [h,hi3];simp
theorem rGrow.made {α:Type} (E:TypeId) (R:cr α) (w:World) (z:Array Value) (n:Nat) (hn:n<=maxLen) {base:Nat} (hb:base<=w.heap.size):
  rGrow E 1 R base (w.alloc (.cells (madeCells z (n*1)) E)) (.slice (some ⟨w.heap.size,0,none⟩) 0 n) ([]:List α):=by
 refine ⟨[],⟨by simp,.inr ⟨w.heap.size,n,_,rfl,hb,heap_alloc_new _ _,Nat.zero_le _,hn,by simp [madeCells],by simp⟩⟩,fun j hj=>by simp at hj⟩
theorem lp {P:Program} {src dst e:TypeId} (hs:P.underlying src=some (.slice e)) (he:P.underlying e=some (.int .u8)) (hd:P.underlying dst=some .string)
  {w:World} {S:Nat->Prop} {v:Value} {l:List Nat} (h:al 1 rU8 w S [v] l) (hl:0<l.length):
  ∃s:ByteArray,(convert src dst v).run P w= .ok (.string s) w/\s.data.toList=l.map UInt8.ofNat:=by
 obtain ⟨a,cap,hv,h1,h2,h3,h4⟩:=h;simp only [List.cons.injEq,and_true] at hv;subst hv;rcases h4 with h4|⟨b,off,rfl,h4⟩
 ·rw [h4] at hl;simp at hl
 have h5:(loadCells ⟨b,off,none⟩ l.length).run P w= .ok (((l.map fun x:Nat=>(x:Int)).map (Value.int .u8))).toArray w:=by
  have:=run_loadCells (P:=P) (w:=w) ⟨b,off,none⟩ l.length (fun j=> .int .u8 (l.getD j 0:Nat)) (fun j hj=>by
   have hadd:(⟨b,off,none⟩:Addr).add j=⟨b,off+j,none⟩:=by unfold Addr.add;split<;>simp_all
   rw [hadd,(h4.u8 hj).1];simp [List.getD,hj])
  rw [this];congr 1;apply Array.ext';apply List.ext_getElem
  ·simp
  intro j h1 h2;have:j<l.length:=by simpa using h2
  simp [List.getD,this]
 refine ⟨_,by rw [run_convert_bytes_string w src dst e _ l.length cap hs he hd,run_bytesToString w ⟨b,off,none⟩ l.length cap _ h5],?_⟩;rw [fU];simp [List.map_map]
theorem eU (s:ByteArray) (w:World) (hs:s.size<=maxLen):
  Calls prog 208 #[.string s] w fun e w'=>e= .returned (.string (ae (ac s)))/\w=w':=by
 unfold maxLen at hs;go_enter func208,ntmps208
 go_wp2
 go_loop [3] (fun t=>∃k:Nat,k<=s.size/\t= .int .i64 k/\Hid (ac (s.extract k s.size)=ac s)) (fun t=>s.size-(intOf t).toNat)
 case atStart=>exact ⟨0,Nat.zero_le _,rfl,by simp [Hid]⟩
 case round=>
  obtain ⟨k,hk,rfl,HE⟩:=hrel;by_cases hlt:k<s.size
  ·by_cases hz:s[k]=0
   ·have hz':((s[k]'hlt).toNat==0)=true:=by rw [hz];rfl
    have HZ:=hid hz;clear hz;go_wp2
    go_round
    case rel=>
     refine ⟨k+1,by omega,by go_num,?_⟩;have:=jp s k hlt;rw [HZ.out] at this;rw [←HE.out,this];simp [Hid]
    case measure=>simp [intOf];omega
   have hz':((s[k]'hlt).toNat==0)=false:=by
    simp only [beq_eq_false_iff_ne];intro h;apply hz;exact UInt8.toNat_inj.1 (by simpa using h)
   have hR:Hid (ae (ac s)=s.extract k s.size):=by
    rw [←HE.out];exact cA fun h=>by rw [jo s k hlt];exact hz
   clear hz;go_wp2
   go_ret
   exact ⟨fX hR.out.symm,rfl⟩
  have hR:Hid (ae (ac s)=s.extract k s.size):=by
   rw [←HE.out];exact cA fun h=>by simp at h;omega
  go_wp2
  go_ret
  exact ⟨fX hR.out.symm,rfl⟩
theorem fq (s:ByteArray):(ae (ac s)).size<=s.size:=by rw [aL];exact aA (bD s)
theorem dR (S:Nat->Prop) (v:Value) (xs:List Nat) (w:World) (hv:al 1 aE w S [v] xs):
  Calls prog 293 #[v] w fun e w'=>∃u,e= .returned u/\w=w'/\al 1 aE w S [u] (ab (aa xs)):=by
 have hlt:=hid (cB hv);obtain ⟨a,cap,rfl,h1,h2,h3,h4⟩:=aw hv;have hn:=cc h1 h2;have hcap:cap<=9223372036854775807:=by unfold maxLen at h2;omega
 go_enter func293,ntmps293
 go_wp2
 go_loop [3] (fun i=>∃k:Nat,k<=xs.length/\i= .int .i64 k/\Hid (∀j (hj:j<xs.length),k<=j->xs[j]=0)) (fun i=>(intOf i).toNat)
 case atStart=>exact ⟨xs.length,Nat.le_refl _,rfl,fun j hj h=>by omega⟩
 case round=>
  obtain ⟨k,hk,rfl,HE⟩:=hrel;cases k with
  |zero=>
   have e:=cU hlt.out 0 (by omega) HE.out (fun h=>by omega);rw [List.take_zero] at e;have E:=hid e;clear e;go_wp2
   go_ret
   refine ⟨_,rfl,rfl,?_⟩;rw [E.out];exact ⟨a,cap,rfl,by simp,h2,h3,.inl rfl⟩
  |succ k=>
   rcases h4 with rfl|⟨b,off,rfl,h4⟩
   ·simp at hk
   have g0:=(h4.u32 (j:=k) (by omega)).1;have ei:((k+1:Nat):Int)-1=(k:Int):=by omega
   by_cases hz:xs[k]=0
   ·have hz':((xs[k]:Int)==0)=true:=by simp [hz]
    have HZ:=hid hz;clear hz;go_wp2
    go_round
    case rel=>
     refine ⟨k,by omega,rfl,fun j hj hkj=>?_⟩;by_cases hjk:j=k
     ·subst hjk;exact HZ.out
     exact HE.out j hj (by omega)
    case measure=>simp [intOf]
   have hz':((xs[k]:Int)==0)=false:=by simpa using hz
   have E:=hid (cU hlt.out (k+1) hk HE.out (fun _=>hz));clear hz;go_wp2
   go_ret
   refine ⟨_,rfl,rfl,?_⟩;rw [E.out];exact ⟨some ⟨b,off,none⟩,cap,by simp;omega,by simp;omega,h2,by simp,.inr ⟨b,off,rfl,h4.take _⟩⟩
theorem pS (v:Nat):(ab v).length=((ae v).size+3)/4:=by
 rw [aL];obtain ⟨m,hm⟩:∃m,m=((aI v).length+3)/4:=⟨_,rfl⟩;rw [←hm];have e:∀k,(4294967296:Nat)^k=256^(4*k):=fun k=>by rw [Nat.pow_mul]
 have h1:=eO v;have h2:256^(aI v).length<=4294967296^m:=by rw [e];exact Nat.pow_le_pow_right (by decide) (by omega)
 have h3:=aW (Nat.lt_of_lt_of_le h1 h2);rcases Nat.eq_zero_or_pos m with h0|h0
 ·omega
 have h4:256^((aI v).length-1)<=v:=by
  rcases Nat.lt_or_ge v (256^((aI v).length-1)) with h|h
  ·have:=aA h;omega
  exact h
 have h5:4294967296^(m-1)<=v:=by
  rw [e];exact Nat.le_trans (Nat.pow_le_pow_right (by decide) (by omega)) h4
 have:=jn h5;omega
theorem jB (v:Nat):bh (((ae v).size+3)/4) v=ab v:=by
 have:=mv (aB v);rw [ah,pS] at this;exact this
theorem pT (s0:ByteArray) (w:World) (hs0:s0.size<=1000000000000):
  Calls prog 203 #[.string s0] w fun e w'=>∃u,e= .returned u/\al 1 aE w' (LT w'.heap.size) [u] (ab (ac s0))/\Below w.heap.size w w':=by
 have HN:=hid (eU s0 w (by unfold maxLen;omega));have hsz:=fq s0;have hsv:ac (ae (ac s0))=ac s0:=ai _;have hfix:=jB (ac s0);generalize ae (ac s0)=s at *
 rw [←hsv] at hfix ⊢;have HFX:=hid hfix;clear hfix hsv;have hs:s.size<=1000000000000:=by omega
 obtain ⟨m,hm⟩:∃m:Nat,m=(s.size+3)/4:=⟨_,rfl⟩;rw [←hm] at HFX;have hm1:((s.size:Int)+3)/4=(m:Int):=by omega
 have hmk:=fun (w:World)=>bo (P:=prog) underlying312 Tryz.infoU32 rfl w m (by omega) (by omega)
 have hn:s.size<=9223372036854775807:=by omega
 have HM:=hid hm;clear hm hsz hs0;go_enter func203,ntmps203
 go_wp2_with fail
 refine Calls.mono HN.out ?_;rintro e w1 ⟨rfl,rfl⟩;go_wp2
 clear hmk;go_loopw [4] (fun i wr=>∃(k:Nat) (f:Nat->Value),k<=s.size/\i= .int .i64 k/\Below w.heap.size w wr/\Own wr w.heap.size 233 m f/\Hid (∀j,j<m->f j= .int .u32 ((ac s%256^k/4294967296^j%4294967296:Nat):Int))) (fun i _=>s.size-(intOf i).toNat)
 case atStart=>exact ⟨0,_,Nat.zero_le _,rfl,(Below.refl _ _).alloc (Nat.le_refl _) _,Own.new _ _ _ _,fun j _=>by simp [Nat.mod_one]⟩
 case round=>
  obtain ⟨k,f,hk,rfl,hbel,hown,HF⟩:=hrel;by_cases hlt:k<s.size
  ·obtain ⟨q,hq⟩:∃q:Nat,q=k/4:=⟨_,rfl⟩;have hq1:((k:Int)/4)=(q:Int):=by omega
   have hqm:q<m:=by have:=HM.out;omega
   have c1:=hown.cell hqm;rw [HF.out q hqm] at c1;obtain ⟨x,hx⟩:∃x:Nat,x=ac s%256^k/4294967296^q%4294967296:=⟨_,rfl⟩;rw [←hx] at c1;have c2:=hown.frozen q;have HQ:=hid hq;have HX:=hid hx;clear hq hx;have d1:(s.size:Int)-1-k=((s.size-1-k:Nat):Int):=by omega
   have d2:s.size-1-k<s.size:=by omega
   have hb:ac s/256^k%256=(s[s.size-1-k]'d2).toNat:=rg s.data.toList k hlt;have Hb:=hid hb;have hr:k%4=0∨k%4=1∨k%4=2∨k%4=3:=by omega
   rcases hr with hr|hr|hr|hr
   ·have hr1:((k:Int)%4)=0:=by omega
    have HP:=hid (bS (ac s) k q 0 x _ 1 (by decide) (by omega) (by have:=HQ.out;omega) HX.out hb.symm);clear hb;go_wp2
    go_region
    go_wp2
    go_roundw
    case rel=>
     refine ⟨k+1,upd f q _,by omega,by go_num,(hbel.setCell (Nat.le_refl _) _).drew,(hown.set _ _).drew,fun j hj=>?_⟩;unfold upd;by_cases hjq:j=q
     ·rw [if_pos hjq,hjq,←HP.out.2.2.2,cH x s[s.size-1-k].toNat 0 1 (by decide) (by omega) HP.out.1 HP.out.2.1 _ (by have:=HP.out.2.2.1;omega)]
     rw [if_neg hjq,bE _ k q j HQ.out hjq];exact HF.out j hj
    case measure=>simp [intOf];omega
   ·have hr1:((k:Int)%4)=1:=by omega
    have HP:=hid (bS (ac s) k q 1 x _ 256 (by decide) (by omega) (by have:=HQ.out;omega) HX.out hb.symm);clear hb;go_wp2
    go_region
    go_wp2
    go_roundw
    case rel=>
     refine ⟨k+1,upd f q _,by omega,by go_num,(hbel.setCell (Nat.le_refl _) _).drew,(hown.set _ _).drew,fun j hj=>?_⟩;unfold upd;by_cases hjq:j=q
     ·rw [if_pos hjq,hjq,←HP.out.2.2.2,cH x s[s.size-1-k].toNat 8 256 (by decide) (by omega) HP.out.1 HP.out.2.1 _ (by have:=HP.out.2.2.1;omega)]
     rw [if_neg hjq,bE _ k q j HQ.out hjq];exact HF.out j hj
    case measure=>simp [intOf];omega
   ·have hr1:((k:Int)%4)=2:=by omega
    have HP:=hid (bS (ac s) k q 2 x _ 65536 (by decide) (by omega) (by have:=HQ.out;omega) HX.out hb.symm);clear hb;go_wp2
    go_region
    go_wp2
    go_roundw
    case rel=>
     refine ⟨k+1,upd f q _,by omega,by go_num,(hbel.setCell (Nat.le_refl _) _).drew,(hown.set _ _).drew,fun j hj=>?_⟩;unfold upd;by_cases hjq:j=q
     ·rw [if_pos hjq,hjq,←HP.out.2.2.2,cH x s[s.size-1-k].toNat 16 65536 (by decide) (by omega) HP.out.1 HP.out.2.1 _ (by have:=HP.out.2.2.1;omega)]
     rw [if_neg hjq,bE _ k q j HQ.out hjq];exact HF.out j hj
    case measure=>simp [intOf];omega
   have hr1:((k:Int)%4)=3:=by omega
   have HP:=hid (bS (ac s) k q 3 x _ 16777216 (by decide) (by omega) (by have:=HQ.out;omega) HX.out hb.symm);clear hb;go_wp2
   go_region
   go_wp2
   go_roundw
   case rel=>
    refine ⟨k+1,upd f q _,by omega,by go_num,(hbel.setCell (Nat.le_refl _) _).drew,(hown.set _ _).drew,fun j hj=>?_⟩;unfold upd;by_cases hjq:j=q
    ·rw [if_pos hjq,hjq,←HP.out.2.2.2,cH x s[s.size-1-k].toNat 24 16777216 (by decide) (by omega) HP.out.1 HP.out.2.1 _ (by have:=HP.out.2.2.1;omega)]
    rw [if_neg hjq,bE _ k q j HQ.out hjq];exact HF.out j hj
   case measure=>simp [intOf];omega
  have hR:al 1 aE wr (LT wr.heap.size) [.slice (some ⟨w.heap.size,0,none⟩) m m] (bh m (ac s)):=by
   refine hown.reads (bc _ _) (by unfold maxLen;have:=HM.out;omega) fun j hj=>?_
   rw [bc] at hj;have hk':k=s.size:=by omega
   have e:ac s%256^k=ac s:=Nat.mod_eq_of_lt (by rw [hk'];exact bD s);rw [HF.out j hj,e];have g:=cn m (ac s) j hj;rw [List.getElem?_eq_getElem (by rw [bc];exact hj)] at g;rw [Option.some.inj g];exact ⟨rfl,Nat.mod_lt _ (by decide)⟩
  rw [HFX.out] at hR;go_wp2
  go_ret
  exact ⟨_,rfl,hR,hbel⟩
theorem gY (S:Nat->Prop) (u v:Value) (x y:Nat) (w:World) (hS:∀b,S b->b<w.heap.size) (hu:al 1 aE w S [u] (ab x)) (hv:al 1 aE w S [v] (ab y)):
  Calls prog 206 #[u,v] w fun e w'=>e= .returned (.int .i64 (aC x y))/\Below w.heap.size w w':=by
 obtain ⟨a,cap,rfl,h1,h2,h3,h4⟩:=aw hu;obtain ⟨a',cap',rfl,h1',h2',h3',h4'⟩:=aw hv;have hn:=cc h1 h2;have hn':=cc h1' h2';rcases Nat.lt_trichotomy (ab x).length (ab y).length with hl|hl|hl
 ·have hR:=hid (cv (co hl));have hl':((ab x).length !=(ab y).length)=true:=by simp;omega
  have hl2:¬(((ab x).length:Int)=((ab y).length:Int)):=by omega
  go_enter func206,ntmps206
  go_wp2
  go_ret
  exact ⟨aS hR.out.symm,Below.refl _ _⟩
 ·have HL:=hid hl;rw [←hl];clear hl;go_enter func206,ntmps206
  go_wp2
  go_loopw [5] (fun i wr=>∃k:Nat,k<=(ab x).length/\i= .int .i64 ((k:Int)-1)/\Below w.heap.size w wr/\Hid ((ab x).drop k=(ab y).drop k)) (fun i _=>(intOf i+1).toNat)
  case atStart=>exact ⟨_,Nat.le_refl _,rfl,Below.refl _ _,by show (ab x).drop (ab x).length=(ab y).drop (ab x).length;rw [List.drop_length,HL.out,List.drop_length]⟩
  case round=>
   obtain ⟨k,hk,rfl,hbel,HE⟩:=hrel;cases k with
   |zero=>
    have hxy:x=y:=by
     have:=HE.out;rw [List.drop_zero,List.drop_zero] at this;have:=congrArg aa this;rwa [ah,ah] at this
    have hR:Hid (aC x y=0):=by subst hxy;exact kg _
    clear hxy;go_wp2
    go_ret
    exact ⟨aS hR.out.symm,hbel⟩
   |succ k=>
    rw [show (((k+1:Nat):Int)-1)=(k:Int) by omega];have hlt:k<(ab x).length:=by omega
    have hlt':k<(ab y).length:=by have:=HL.out;omega
    rcases h4 with h4|⟨b,off,rfl,h4⟩
    ·rw [h4] at hlt;simp at hlt
    rcases h4' with h4'|⟨b',off',rfl,h4'⟩
    ·rw [h4'] at hlt';simp at hlt'
    obtain ⟨g0,g1⟩:=h4.u32 hlt;rw [←hbel.cell (p:=⟨b,off+k,none⟩) (hS _ h4.1)] at g0;obtain ⟨f0,f1⟩:=h4'.u32 hlt';rw [←hbel.cell (p:=⟨b',off'+k,none⟩) (hS _ h4'.1)] at f0;have HX:=hid (aB x);have HY:=hid (aB y);have HVX:=hid (ah x);have HVY:=hid (ah y);rcases Nat.lt_trichotomy (ab x)[k] (ab y)[k] with hc|hc|hc
    ·have hR:Hid (aC x y= -1):=cv (by rw [←HVX.out,←HVY.out];exact b7 HX.out HL.out k hlt hlt' HE.out hc);have q1:(((ab x)[k]:Int) !=((ab y)[k]:Int))=true:=by rw [bne_iff_ne];omega
     have q1':((ab x)[k] !=(ab y)[k])=true:=by rw [bne_iff_ne];omega
     go_wp2
     go_quiet (fail)
     go_wp2
     go_quiet (fail)
     go_wp2
     go_ret
     exact ⟨aS hR.out.symm,(hbel.drewN _).drewN _⟩
    ·have q1:(((ab x)[k]:Int) !=((ab y)[k]:Int))=false:=by simp [hc]
     have q1':((ab x)[k] !=(ab y)[k])=false:=by simp [hc]
     have HC:=hid hc;clear hc;go_wp2
     go_quiet (fail)
     go_wp2
     go_roundw
     case rel=>exact ⟨k,by omega,rfl,hbel.drewN _,by show (ab x).drop k=(ab y).drop k;rw [List.drop_eq_getElem_cons hlt,List.drop_eq_getElem_cons hlt',HC.out,HE.out]⟩
     case measure=>simp [intOf]
    have hR:Hid (aC x y=1):=fj (by rw [←HVX.out,←HVY.out];exact b7 HY.out HL.out.symm k hlt' hlt HE.out.symm hc);have q1:(((ab x)[k]:Int) !=((ab y)[k]:Int))=true:=by rw [bne_iff_ne];omega
    have q1':((ab x)[k] !=(ab y)[k])=true:=by rw [bne_iff_ne];omega
    have q2:¬(ab x)[k]<(ab y)[k]:=by omega
    go_wp2
    go_quiet (fail)
    go_wp2
    go_quiet (fail)
    go_wp2
    go_ret
    exact ⟨aS hR.out.symm,(hbel.drewN _).drewN _⟩
 have hR:=hid (fj (co hl));have hl':((ab x).length !=(ab y).length)=true:=by simp;omega
 have hl2:¬(((ab x).length:Int)=((ab y).length:Int)):=by omega
 go_enter func206,ntmps206
 go_wp2
 go_ret
 exact ⟨aS hR.out.symm,Below.refl _ _⟩
theorem pU (S : Nat → Prop) (u : Value) (xs : List Nat) (d : Nat) (w : World) (hS : ∀ b, S b → b < w.heap.size) (hl : xs.length ≤ 1000000000000) (hd0 : 0 < d) (hd : d < 4294967296) (hu : al 1 aE w S [u] xs) :
    Calls prog 345 #[u, .int .u32 d] w fun e w' => ∃ r, e = .returned (.tuple #[r, .int .u32 ((aa xs % d : Nat) : Int)]) ∧ al 1 aE w' (LT w'.heap.size) [r] (ab (aa xs / d)) ∧ Below w.heap.size w w' := by
  have hxlt := hid (cB hu)
  obtain ⟨xa, xc, rfl, x1, x2, x3, x4⟩ := aw hu
  have hn := cc x1 x2
  have hmk := fun (w : World) => bo (P := prog) underlying312 Tryz.infoU32 rfl w xs.length (by omega) (by omega)
  go_enter func345, ntmps345
  go_wp2
  clear hmk
  go_loopw [7, 8] (fun r i wr => ∃ (k r' : Nat) (o : List Nat) (f : Nat → Value), k ≤ xs.length ∧ i = .int .i64 ((k : Int) - 1) ∧ r = .int .u64 (r' : Int) ∧ r' < d ∧ Below w.heap.size w wr ∧ w.heap.size < wr.heap.size ∧ Own wr w.heap.size 233 xs.length f ∧ Hid (∀ j, f j = .int .u32 ((o.getD j 0 : Nat) : Int)) ∧ Hid (o.length = xs.length) ∧ Hid (∀ x ∈ o, x < 4294967296) ∧
      Hid (aa (xs.drop k) = aa (o.drop k) * d + r')) (fun _ i _ => (intOf i + 1).toNat)
  case atStart =>
    refine ⟨xs.length, 0, List.replicate xs.length 0, _, Nat.le_refl _, rfl, rfl, hd0, (Below.refl _ _).alloc (Nat.le_refl _) _, by simp, Own.new _ _ _ _, fun j => ?_, by simp [Hid], fun x hx => ?_, ?_⟩
    · simp [List.getD, List.getElem?_replicate]; split <;> rfl
    · have := List.eq_of_mem_replicate hx; omega
    show aa (xs.drop xs.length) = _
    rw [List.drop_length, List.drop_of_length_le (by simp)]; simp [aa]
  case round =>
    obtain ⟨k, r', o, f, hk, rfl, rfl, hr', hbw, hsz, hown, HF, HL, HD, HV⟩ := hrel
    cases k with
    | zero =>
      have hs := HV.out
      rw [List.drop_zero, List.drop_zero] at hs
      have hq : aa o = aa xs / d := by rw [hs, Nat.mul_comm, Nat.mul_add_div hd0, Nat.div_eq_of_lt hr']; rfl
      have hrm : aa xs % d = r' := by rw [hs, Nat.mul_comm, Nat.mul_add_mod, Nat.mod_eq_of_lt hr']
      have hR := bV hown HF.out HL.out (by omega) HD.out
      have HT := hid (dR _ _ _ _ hR)
      rw [hq] at HT
      have HRM := hid hrm
      clear hs hq hR hrm
      have hr32 : r' < 4294967296 := by omega
      go_wp2_with fail
      refine Calls.mono HT.out ?_
      rintro e' w3 ⟨r, rfl, rfl, hr⟩
      go_wp2
      go_ret2
      exact ⟨r, by rw [HRM.out]; rfl, hr, hbw⟩
    | succ k =>
      rw [show (((k + 1 : Nat) : Int) - 1) = (k : Int) by omega]
      have hlt : k < xs.length := by omega
      rcases x4 with rfl | ⟨b1, off1, rfl, x4⟩
      · simp at hlt
      obtain ⟨g0, g1⟩ := x4.u32 hlt
      rw [← hbw.cell (p := ⟨b1, off1 + k, none⟩) (hS _ x4.1)] at g0
      have c1 := hown.cell hlt
      rw [HF.out k] at c1
      have c2 := hown.frozen k
      have hr32 : r' < 4294967296 := by omega
      obtain ⟨x, hx⟩ : ∃ x, x = xs[k] := ⟨_, rfl⟩
      have HX := hid (show aa (xs.drop k) = x + 4294967296 * aa (xs.drop (k + 1)) by rw [hx, List.drop_eq_getElem_cons hlt]; rfl)
      rw [← hx] at g0 g1
      clear hx
      have o1 := dl r' x hr32 g1
      obtain ⟨q, hq⟩ : ∃ q : Nat, q = (r' * 4294967296 + x) / d := ⟨_, rfl⟩
      obtain ⟨r2, hr2⟩ : ∃ r2 : Nat, r2 = (r' * 4294967296 + x) % d := ⟨_, rfl⟩
      have hqr : d * q + r2 = r' * 4294967296 + x := by rw [hq, hr2]; exact Nat.div_add_mod _ _
      have hr2d : r2 < d := by rw [hr2]; exact Nat.mod_lt _ hd0
      have hq32 : q < 4294967296 := by
        rw [hq]
        apply Nat.div_lt_of_lt_mul
        have := Nat.mul_le_mul_right 4294967296 (show r' + 1 ≤ d from hr')
        rw [Nat.add_mul] at this
        omega
      have Q1 := hid (show (((r' : Int) * 4294967296 + (x : Int)) / (d : Int)) % 4294967296 = (q : Int) by
        have : ((r' : Int) * 4294967296 + (x : Int)) / (d : Int) = (q : Int) := by rw [hq, Int.natCast_ediv, Int.natCast_add, Int.natCast_mul]; rfl
        rw [this]; omega)
      have Q2 := hid (show (((r' : Int) * 4294967296 + (x : Int)) % (d : Int)) = (r2 : Int) by rw [hr2, Int.natCast_emod, Int.natCast_add, Int.natCast_mul]; rfl)
      have HQR := hid hqr
      clear hq hr2 hqr
      go_wp2
      clear o1
      go_roundw
      case rel =>
        rw [Q1.out, Q2.out]
        have hko : k < o.length := by rw [HL.out]; exact hlt
        refine ⟨k, r2, o.set k q, upd f k (.int .u32 q), by omega, rfl, rfl, hr2d, hbw.setCell (Nat.le_refl _) _, by simpa using hsz, hown.set _ _, gl hko HF.out q, ?_, ?_, ?_⟩
        · show (o.set k q).length = _; simp [HL.out]
        · intro u hu
          rcases List.mem_or_eq_of_mem_set hu with h | h
          · exact HD.out u h
          omega
        show aa (xs.drop k) = aa ((o.set k q).drop k) * d + r2
        have e : (o.set k q).drop k = q :: o.drop (k + 1) := by
          rw [List.drop_eq_getElem_cons (by simpa using hko), List.drop_set_of_lt (by omega)]
          simp
        rw [HX.out, HV.out, e]
        show _ = (q + 4294967296 * aa (o.drop (k + 1))) * d + r2
        have h1 := HQR.out
        rw [Nat.add_mul, Nat.mul_add, Nat.mul_assoc 4294967296, Nat.mul_comm q d]
        omega
      case measure => simp [intOf]



theorem wK (x:Nat) (hx:x<4294967296):av ([x/16777216%256,x/65536%256,x/256%256,x%256].map UInt8.ofNat)=x:=by
 simp [av,List.foldl];omega
theorem jS {bs:List Nat} {x D:Nat} (hx:x<4294967296) (h:av (bs.map UInt8.ofNat)=D):av ((bs++[x/16777216%256,x/65536%256,x/256%256,x%256]).map UInt8.ofNat)=x+4294967296*D:=by
 rw [List.map_append,cN,wK x hx,h];simp;omega
theorem ls {P:Program} {src dst e:TypeId} (hs:P.underlying src=some (.slice e)) (he:P.underlying e=some (.int .u8)) (hd:P.underlying dst=some .string) (w:World) (a:Addr) (cap:Nat):
  ∃s:ByteArray,(convert src dst (.slice (some a) 0 cap)).run P w= .ok (.string s) w/\s.data.toList=[]:=by
 have h5:(loadCells a 0).run P w= .ok (([]:List Int).map (Value.int .u8)).toArray w:=by
  have:=run_loadCells (P:=P) (w:=w) a 0 (fun j=> .int .u8 0) (fun j hj=>by omega);rw [this];rfl
 refine ⟨_,by rw [run_convert_bytes_string w src dst e _ 0 cap hs he hd,run_bytesToString w a 0 cap _ h5],?_⟩;rw [fU];simp
theorem mM {P:Program} {src dst e:TypeId} (hs:P.underlying src=some (.slice e)) (he:P.underlying e=some (.int .u8)) (hd:P.underlying dst=some .string)
  {w:World} {E base:Nat} {v:Value} {l:List Nat} (h:rGrow E 1 rU8 base w v l) {a:Addr} {c:Nat} (hv:l=[]->v= .slice (some a) 0 c):
  ∃s:ByteArray,(convert src dst v).run P w= .ok (.string s) w/\s.data.toList=l.map UInt8.ofNat:=by
 rcases Nat.eq_zero_or_pos l.length with h0|h0
 ·have:l=[]:=List.eq_nil_of_length_eq_zero h0;rw [hv this];obtain ⟨s,h1,h2⟩:=ls hs he hd w a c;exact ⟨s,h1,by rw [h2,this];rfl⟩
 exact lp hs he hd (h.slice gE) h0
theorem ko (S:Nat->Prop) (v:Value) (xs:List Nat) (w:World) (hS:∀b,S b->b<w.heap.size) (hl:xs.length<=1000000000000) (hv:al 1 aE w S [v] xs):
  Calls prog 210 #[v] w fun e w'=>e= .returned (.string (ae (aa xs)))/\Below w.heap.size w w':=by
 have HST:=hid (dR S v xs w hv);have hxs:=hid (aB (aa xs));have hlen:(ab (aa xs)).length<=1000000000000:=Nat.le_trans (aW (ax (cB hv))) hl;have vv:=hid (ah (aa xs));generalize aa xs=V at *
 generalize ab V=ys at *
 obtain ⟨n,hn4⟩:∃n:Nat,n=4*ys.length:=⟨_,rfl⟩;have hm1:(4:Int)*(ys.length:Int)=(n:Int):=by omega
 have hmk:=fun (w:World)=>rk (P:=prog) underlying90 Tryz.infoU8 w n (by omega) (by omega)
 have hnb:n<=9223372036854775807:=by omega
 have HN:=hid hn4;clear hn4 hv hl;go_enter func210,ntmps210
 go_wp2_with fail
 refine Calls.mono HST.out ?_;rintro e w1 ⟨r,rfl,rfl,hr⟩;obtain ⟨a,cap,rfl,h1,h2,h3,h4⟩:=aw hr;clear hr;go_wp2
 clear hmk;have hm0:=hid (rGrow.made (α:=Nat) 5 rU8 w #[.int .u8 0] n (by unfold maxLen;omega) (Nat.le_refl w.heap.size));rw [Nat.mul_one] at hm0;go_loopw [3,4,5] (fun p i _ wr=>∃(k:Nat) (bs:List Nat),k<=ys.length/\i= .int .i64 ((k:Int)-1)/\Below w.heap.size w wr/\rGrow 5 1 rU8 w.heap.size wr p bs/\Hid (bs.length+4*k=n)/\Hid (av (bs.map UInt8.ofNat)=aa (ys.drop k))/\Hid (bs=[]->p= .slice (some ⟨w.heap.size,0,none⟩) 0 n)) (fun _ i _ _=>(intOf i+1).toNat)
 case atStart=>
  exact ⟨ys.length,[],Nat.le_refl _,rfl,(Below.refl _ _).alloc (Nat.le_refl _) _,hm0.out,by show 0+_=_;rw [HN.out];omega,by show av []=_;rw [List.drop_length];rfl,fun _=>rfl⟩
 case round=>
  obtain ⟨k,bs,hk,rfl,hbw,hg,HL,HV,HE⟩:=hrel;have hsz:=hbw.size;cases k with
  |zero=>
   obtain ⟨s,hs1,hs2⟩:=mM (P:=prog) underlying90 underlying5 underlying9 hg HE.out;have hsz2:s.size<=maxLen:=by
    have:=congrArg List.length hs2;rw [Array.length_toList] at this;simp at this;unfold maxLen;have h1:s.size=bs.length:=this;have:=HL.out;omega
   have hval:ac s=V:=by
    unfold ac;rw [hs2,HV.out,List.drop_zero];exact vv.out
   have HC:=hid (eU s wr hsz2);rw [hval] at HC;clear hs2 hval;go_wp2_with fail
   refine Calls.mono HC.out ?_;rintro e w1 ⟨rfl,rfl⟩;go_wp2
   go_ret
   exact ⟨rfl,hbw⟩
  |succ k=>
   rw [show (((k+1:Nat):Int)-1)=(k:Int) by omega];have hlt:k<ys.length:=by omega
   rcases h4 with rfl|⟨b,off,rfl,h4⟩
   ·simp at hlt
   obtain ⟨g0,g1⟩:=h4.u32 hlt;rw [←hbw.cell (p:=⟨b,off+k,none⟩) (hS _ h4.1)] at g0;have hdr:aa (ys.drop k)=ys[k]+4294967296*aa (ys.drop (k+1)):=by rw [List.drop_eq_getElem_cons hlt];rfl
   obtain ⟨x,hx⟩:∃x,x=ys[k]:=⟨_,rfl⟩;rw [←hx] at g0 g1 hdr;have HDR:=hid hdr;clear hx hdr;obtain ⟨d0,hd0⟩:∃d,d=x/16777216:=⟨_,rfl⟩;obtain ⟨d1,hd1⟩:∃d,d=x/65536%256:=⟨_,rfl⟩;obtain ⟨d2,hd2⟩:∃d,d=x/256%256:=⟨_,rfl⟩;obtain ⟨d3,hd3⟩:∃d,d=x%256:=⟨_,rfl⟩;have q1:(x:Int)/16777216=(d0:Int):=by omega
   have q2:(x:Int)/65536%256=(d1:Int):=by omega
   have q3:(x:Int)/256%256=(d2:Int):=by omega
   have q4:(x:Int)%256=(d3:Int):=by omega
   have HB:=hid (jS g1 HV.out);rw [show x/16777216%256=d0 by omega,←hd1,←hd2,←hd3] at HB;have hb0:d0<256:=by omega
   have hb1:d1<256:=by omega
   have hb2:d2<256:=by omega
   have hb3:d3<256:=by omega
   have hg2:=hg.kept gE ((Below.refl _ _).alloc (Nat.le_refl _) (.cells #[.int .u8 (d0:Int),.int .u8 (d1:Int),.int .u8 (d2:Int),.int .u8 (d3:Int)] 5));have HH:=hid (show d0<256/\d1<256/\d2<256/\d3<256 from ⟨hb0,hb1,hb2,hb3⟩);clear hd0 hd1 hd2 hd3 hb1 hb2 hb3;go_wp2_with (at_builtin;refine ln _ rfl _ _ 90 rfl gE w.heap.size 5 1 _ underlying90 Tryz.infoU8 rfl _ bs [d0,d1,d2,d3] rfl hg2 ?hbase ?hbytes ?h63 (Nat.succ_pos 3) wr.heap.size 4 [.int .u8 (d0:Int),.int .u8 (d1:Int),.int .u8 (d2:Int),.int .u8 (d3:Int)] rfl rfl ?hb rfl ?hy ?_)
   case hbase=>simp;omega
   case hbytes=>have:=HL.out;simp;omega
   case h63=>have:=HL.out;simp;omega
   case hb=>exact ⟨(0,0),heap_alloc_new _ _⟩
   case hy=>
    intro j hj;have hh:=HH.out;have:j=0∨j=1∨j=2∨j=3:=by simp at hj;omega
    rcases this with rfl|rfl|rfl|rfl
    ·exact ⟨rfl,hh.1⟩
    ·exact ⟨rfl,hh.2.1⟩
    ·exact ⟨rfl,hh.2.2.1⟩
    exact ⟨rfl,hh.2.2.2⟩
   intro v' w' hg' hgr hbel';have hbel2:Below w.heap.size w w':=(hbw.alloc hsz _).trans hbel';clear hg2 hg hbel' hgr;go_wp2
   go_roundw
   case rel=>
    refine ⟨k,bs++[d0,d1,d2,d3],by omega,rfl,hbel2,hg',by have:=HL.out;simp [Hid];omega,?_,fun h=>by simp at h⟩;exact HB.out.trans HDR.out.symm
   case measure=>simp [intOf]
theorem cC (u:Nat) (w:World) (hu:u<18446744073709551616):
  Calls prog 116 #[.int .u64 u] w fun e w'=>e= .returned (.string (ae u))/\Below w.heap.size w w':=by
 have e1:aa [u%4294967296,u/4294967296]=u:=by simp [aa];omega
 have hR:∀o:World,Own o w.heap.size 233 2 (fun j=> .int .u32 (([u%4294967296,u/4294967296]:List Nat).getD j 0:Nat))->al 1 aE o (LT o.heap.size) [.slice (some ⟨w.heap.size,0,none⟩) 2 2] [u%4294967296,u/4294967296]:=fun o ho=>
  bV ho (fun _=>rfl) rfl (by omega) (by intro x hx;simp at hx;omega)
 have hO:Own (w.alloc (.cells #[.int .u32 ((u:Int)%4294967296),.int .u32 ((u:Int)/4294967296)] 233)) w.heap.size 233 2 (fun j=> .int .u32 (([u%4294967296,u/4294967296]:List Nat).getD j 0:Nat)):=by
  have:=Own.new w 233 2 (fun j=> .int .u32 (([u%4294967296,u/4294967296]:List Nat).getD j 0:Nat));have e:(Array.range 2).map (fun j=>Value.int .u32 (([u%4294967296,u/4294967296]:List Nat).getD j 0:Nat))= #[.int .u32 ((u:Int)%4294967296),.int .u32 ((u:Int)/4294967296)]:=by
   apply Array.ext';simp [List.range_succ]
  rw [e] at this;exact this
 have HT:=hid (ko _ _ _ _ (fun _ h=>h) (by simp) (hR _ hO));rw [e1] at HT;clear hR hO e1;go_enter func116,ntmps116
 go_wp2_with fail
 refine Calls.mono HT.out ?_;rintro e w1 ⟨rfl,hb1⟩;go_wp2
 go_ret
 exact ⟨rfl,((Below.refl w.heap.size w).alloc (Nat.le_refl _) _).step hb1⟩
end Go.Proofs.YtclkgcigacbmiaaGreatDoor
namespace Go.Proofs.YtclkgcigacbmiaaGreatDoor
open Go Go.RowKit Go.Proofs.Tryz
def wL (f:FuncId) (ys:List A1):Option AV:=match ys with
 |[.one (.lit (.int .u64 n))]=>bif Nat.beq f 116&&(decide (0<=n)&&decide (n<18446744073709551616)) then some (one (.string (eh n.toNat))) else tw f ys
 |_=>tw f ys
theorem tA (f:FuncId) (ys:List A1) (res:AV) (h:wL f ys=some res):ACall prog f ys res:=by
 unfold wL at h;split at h
 ·rename_i n;rw [cond_eq_ite] at h;split at h
  ·rename_i hc;simp only [Bool.and_eq_true,decide_eq_true_eq] at hc;obtain rfl:=Option.some.inj h;obtain rfl:=Nat.eq_of_beq_eq_true hc.1;obtain ⟨m,rfl⟩:∃m:Nat,n=m:=⟨n.toNat,by omega⟩;rw [gt];exact aJ (aV func116 (by decide) (by kernel_rfl)) [.int .u64 m] (.string (ae m)) fun w=>cC m w (by omega)
  exact oU f _ res h
 exact oU f ys res h
def vC (f:FuncId):Bool:=Nat.beq f 116||yb f
end Go.Proofs.YtclkgcigacbmiaaGreatDoor
namespace Go.Proofs.YtclkgcigacbmiaaGreatDoor
open Go.RowKit Go.Proofs.Tryz
theorem wM {x c lo hi s:Nat} (hx:x<4294967296) (hs:s<32) (hl:c+lo<4294967296) (hh:hi<2^s) (h:4294967296*hi+lo=x*2^s):IntKind.u64.wrap ((x:Int)*2^s)/4294967296%4294967296=(hi:Int):=by
 have hp:=ee hs;have ht:x*2^s<=4294967295*2147483648:=Nat.mul_le_mul (by omega) hp;have e1:(x:Int)*2^s=((x*2^s:Nat):Int):=by rw [Int.natCast_mul,Int.natCast_pow];rfl
 have e2:IntKind.u64.wrap ((x:Int)*2^s)=((x*2^s:Nat):Int):=by rw [e1];exact IntWalk.u64_in _ (by omega)
 rw [e2,←h];omega
theorem iu (S : Nat → Prop) (u : Value) (xs : List Nat) (s : Nat) (w : World) (hS : ∀ b, S b → b < w.heap.size) (hn : xs.length ≤ 999999999999) (hs : s < 32) (hu : al 1 aE w S [u] xs) :
    Calls prog 410 #[u, .int .u64 s] w fun e w' => ∃ g o, e = .returned (.slice (some ⟨g, 0, none⟩) (xs.length + 1) (xs.length + 1)) ∧ w.heap.size ≤ g ∧ OwnL w' g (xs.length + 1) o ∧ aa o = aa xs * 2 ^ s ∧ Below w.heap.size w w' := by
  have hxlt := hid (cB hu)
  obtain ⟨xa, xc, rfl, x1, x2, x3, x4⟩ := aw hu
  have hn' := cc x1 x2
  obtain ⟨n, hnn⟩ : ∃ n, n = xs.length + 1 := ⟨_, rfl⟩
  rw [← hnn]
  have hm1 : (xs.length : Int) + 1 = (n : Int) := by omega
  have hmk := fun (w : World) => bo (P := prog) underlying312 Tryz.infoU32 rfl w n (by omega) (by omega)
  have hxn : xs.length < n := by omega
  have HNN := hid hnn
  clear hnn
  go_enter func410, ntmps410
  go_wp2
  clear hmk
  go_loopw [6, 7] (fun i _ wr => ∃ (k : Nat) (o : List Nat), k ≤ xs.length ∧ i = .int .i64 k ∧ Below w.heap.size w wr ∧ OwnL wr w.heap.size n o ∧
      Hid (aa o = aa (xs.take k) * 2 ^ s) ∧ Hid (∀ j, k < j → o.getD j 0 = 0) ∧ Hid (o.getD k 0 < 2 ^ s)) (fun i _ _ => xs.length - (intOf i).toNat)
  case atStart =>
    refine ⟨0, _, Nat.zero_le _, rfl, (Below.refl _ _).alloc (Nat.le_refl _) _, OwnL.new _ _, ?_, fun j _ => ?_, ?_⟩
    · show aa _ = aa (xs.take 0) * 2 ^ s; rw [cm]; simp [aa]
    · simp [List.getD, List.getElem?_replicate]; split <;> rfl
    show (List.replicate n 0).getD 0 0 < 2 ^ s
    have : (List.replicate n 0).getD 0 0 = 0 := by simp [List.getD, List.getElem?_replicate]; split <;> rfl
    rw [this]; exact Nat.pow_pos (by decide)
  case round =>
    obtain ⟨k, o, hk, rfl, hbw, hown, HE, HZ, HC⟩ := hrel
    by_cases hlt : k < xs.length
    · rcases x4 with rfl | ⟨b1, off1, rfl, x4⟩
      · simp at hlt
      obtain ⟨g0, g1⟩ := x4.u32 hlt
      rw [← hbw.cell (p := ⟨b1, off1 + k, none⟩) (hS _ x4.1)] at g0
      have hko : k < o.length := by rw [hown.1]; omega
      have c1 := hown.cell hko
      have c2 := hown.frozen k
      have ek : o.getD k 0 = o[k] := by simp [List.getD, hko]
      have hck := HC.out
      rw [ek] at hck
      obtain ⟨lo, hi, b1', b2', b3', b4', hdm⟩ := mB (x := xs[k]) (c := o[k]) g1 hs hck
      have HT := hid (aK xs k hlt)
      have HS := hid (fun d => bF o k d hko)
      have HDM := hid hdm
      have B1 := hid b1'
      have B2 := hid b2'
      have B3 := hid b3'
      have B4 := hid b4'
      have CK := hid hck
      have hb2 := wM g1 hs b3' b4' hdm
      have B5 := hid hb2
      clear hb2 b1' b2' b3' b4' hck ek hdm
      by_cases hk1 : k + 1 < n
      · have hko1 : k + 1 < o.length := by rw [hown.1]; omega
        have e0 : o[k + 1] = 0 := by have := HZ.out (k + 1) (by omega); simpa [List.getD, hko1] using this
        have c3 := hown.cell hko1
        rw [e0] at c3
        have E0 := hid e0
        clear e0
        have c4 := hown.frozen (k + 1)
        go_wp2
        go_roundw
        case rel =>
          rw [B1.out, B5.out]
          have h2 : x2 = x2 := rfl
          refine ⟨k + 1, (o.set k (o[k] + lo)).set (k + 1) (hi), by omega, by go_num, (hbw.setCell (Nat.le_refl _) _).setCell (Nat.le_refl _) _,
            (hown.set hko B3.out).set (by simpa using hko1) (by have := B4.out; have := ee hs; omega), ?_, fun j hj => ?_, ?_⟩
          · show aa _ = _
            have h1 := bF (o.set k (o[k] + lo)) (k + 1) (hi) (by simpa using hko1)
            have h3 := HS.out (o[k] + lo)
            have h4 : (o.set k (o[k] + lo))[k + 1]'(by simpa using hko1) = 0 := by rw [List.getElem_set_ne (by omega)]; exact E0.out
            rw [h4] at h1
            rw [HT.out, Nat.add_mul, ← HE.out, Nat.mul_assoc, ← HDM.out, Nat.mul_add, ← Nat.mul_assoc, ← Nat.pow_succ, Nat.succ_eq_add_one]
            rw [Nat.mul_add] at h3
            omega
          · have := HZ.out j (by omega)
            simpa [List.getD, List.getElem?_set, show ¬ k = j by omega, show ¬ k + 1 = j by omega] using this
          show ((o.set k _).set (k + 1) _).getD (k + 1) 0 < 2 ^ s
          simp [List.getD, hko1]
          exact B4.out
        case measure => simp [intOf]; omega
      exact absurd (by have := HNN.out; omega) hk1
    have hk' : k = xs.length := by omega
    have hval : aa o = aa xs * 2 ^ s := by
      rw [HE.out, List.take_of_length_le (by omega)]
    have HVAL := hid hval
    clear hval
    go_wp2
    go_ret
    exact ⟨_, _, rfl, Nat.le_refl _, hown, HVAL.out, hbw⟩
theorem nG (S:Nat->Prop) (u v:Value) (x y:Nat) (w:World) (hS:∀b,S b->b<w.heap.size) (hxy:x<y) (hu:al 1 aE w S [u] (ab x)) (hv:al 1 aE w S [v] (ab y)):
  Calls prog 295 #[u,v] w fun e w'=>∃q r,e= .returned (.tuple #[q,r])/\al 1 aE w' (LT w'.heap.size) [q] (ab (x/y))/\al 1 aE w' (LT w'.heap.size) [r] (ab (x%y))/\Below w.heap.size w w':=by
 have hc:=gY S u v x y w hS hu hv;rw [cv hxy] at hc;have HC:=hid hc;clear hc;go_enter func295,ntmps295
 go_wp2_with fail
 refine Calls.mono HC.out ?_;rintro e w1 ⟨rfl,hb1⟩;go_wp2
 go_ret2
 refine ⟨_,_,rfl,?_,?_,hb1⟩
 ·rw [Nat.div_eq_of_lt hxy];exact gn _ _
 rw [Nat.mod_eq_of_lt hxy];exact (aq ay) _ _ _ _ _ _ hu (fun b hb=>hb1.block b (hS b hb)) fun b hb=>Nat.lt_of_lt_of_le (hS b hb) hb1.size
theorem jT (S:Nat->Prop) (u v:Value) (x y:Nat) (w:World) (hS:∀b,S b->b<w.heap.size) (hl:(ab x).length<=1000000000000) (hxy:y<=x) (hy1:(ab y).length=1) (hu:al 1 aE w S [u] (ab x)) (hv:al 1 aE w S [v] (ab y)):
  Calls prog 295 #[u,v] w fun e w'=>∃q r,e= .returned (.tuple #[q,r])/\al 1 aE w' (LT w'.heap.size) [q] (ab (x/y))/\al 1 aE w' (LT w'.heap.size) [r] (ab (x%y))/\Below w.heap.size w w':=by
 obtain ⟨ey,hy0,hyW⟩:=eQ hy1;have hc:=gY S u v x y w hS hu hv;have hcn:¬aC x y<0:=by unfold aC;rw [if_neg (by omega)];split<;>omega
 have HC:=hid hc;clear hc;have hv':=hv;have hu':=hid hu;have hvx:=hid (ah x);rw [ey] at hv';obtain ⟨va,vc,rfl,v1,v2,v3,v4⟩:=aw hv';rcases v4 with v4|⟨vb,voff,rfl,v4⟩
 ·cases v4
 have g0:=(v4.u32 (j:=0) (by simp)).1;have hvS:=hS vb v4.1;simp only [List.getElem_cons_zero,Nat.add_zero] at g0;have hsz:([y]:List Nat).length=1:=rfl;clear hv hv' ey;go_enter func295,ntmps295
 go_wp2_with fail
 refine Calls.mono HC.out ?_;rintro e w1 ⟨rfl,hb1⟩;rw [←hb1.cell (p:=⟨vb,voff,none⟩) hvS] at g0;have hu1:al 1 aE w1 (LT w1.heap.size) [u] (ab x):=(aq ay) _ _ _ _ _ _ hu'.out (fun b hb=>hb1.block b (hS b hb)) fun b hb=>Nat.lt_of_lt_of_le (hS b hb) hb1.size
 have HD:=hid (pU _ _ _ y _ (fun _ h=>h) hl hy0 hyW hu1);rw [hvx.out] at HD;have hxm:x%y<4294967296:=Nat.lt_of_lt_of_le (Nat.mod_lt _ hy0) (by omega);go_wp2_with fail
 refine Calls.mono HD.out ?_;rintro e w2 ⟨q,rfl,hq,hb2⟩;have hO:OwnL (w2.alloc (.cells #[.int .u32 ((x%y:Nat):Int)] 233)) w2.heap.size 1 [x%y]:=by
  refine ⟨rfl,fun z hz=>by simp at hz;omega,fun j=> .int .u32 (([x%y]:List Nat).getD j 0:Nat),?_,fun j=>rfl⟩;have:=Own.new w2 233 1 (fun j=> .int .u32 (([x%y]:List Nat).getD j 0:Nat));have e:(Array.range 1).map (fun j=>Value.int .u32 (([x%y]:List Nat).getD j 0:Nat))= #[.int .u32 ((x%y:Nat):Int)]:=by
   apply Array.ext';simp [List.range_succ]
  rw [e] at this;exact this
 have hT:=dR _ _ _ _ (hO.slice (by omega));have e1:aa [x%y]=x%y:=by simp [aa]
 rw [e1] at hT;have HT:=hid hT;have hb3:Below w2.heap.size w2 (w2.alloc (.cells #[.int .u32 ((x%y:Nat):Int)] 233)):=(Below.refl _ _).alloc (Nat.le_refl _) _;clear hT e1 hO hu1;go_wp2_with fail
 refine Calls.mono HT.out ?_;rintro e w3 ⟨r,rfl,rfl,hr⟩;go_wp2
 go_ret2
 exact ⟨_,_,rfl,(aq ay).below hq hb3 hb3.size,hr,hb1.step (hb2.step hb3)⟩
theorem mN {t s S0:Nat} (h0:0<t) (ht:t<4294967296) (hS:S0=32-Lib.bitLen t) (hs:s<=S0):t*2^s<4294967296/\(s<S0->t*2^s<2147483648)/\(s=S0->2147483648<=t*2^s):=by
 obtain ⟨a,b,c⟩:=jx h0 ht hS;have h1:t*2^S0<4294967296:=by
  rw [Nat.add_mul] at c;have:=Nat.pow_pos (n:=S0) (show 0<2 by decide);omega
 have h2:t*2^s<=t*2^S0:=Nat.mul_le_mul_left _ (Nat.pow_le_pow_right (by decide) hs);refine ⟨by omega,fun h=>?_,fun h=>by subst h;exact b⟩;have h3:t*2^(s+1)<=t*2^S0:=Nat.mul_le_mul_left _ (Nat.pow_le_pow_right (by decide) h);rw [Nat.pow_succ,←Nat.mul_assoc] at h3;omega
theorem rl {ds o:List Nat} {off n N D U un u1 u2 dt d2:Nat} (hn2:2<=n) (hdl:ds.length=n) (ho:o.length=N) (hoff:off+n<N) (hdlt:∀x∈ds,x<4294967296) (holt:∀x∈o,x<4294967296)
  (hD:D=aa ds) (hU:U=aa ((o.drop off).take (n+1))) (hUD:U<4294967296*D) (hun:un=o[off+n]'(by omega)) (hu1:u1=o[off+(n-1)]'(by omega)) (hu2:u2=o[off+(n-2)]'(by omega))
  (hdt:dt=ds[n-1]'(by omega)) (hd2:d2=ds[n-2]'(by omega)) (htop:2147483648<=dt):
  ∃G0 R0,(un*4294967296+u1)/dt=G0/\(un*4294967296+u1)%dt=R0/\G0*dt+R0=un*4294967296+u1/\R0<dt/\G0<=4294967297/\U<(G0+1)*D/\0<D/\
   (∀G R,G*dt+R=un*4294967296+u1->R*4294967296+u2<G*d2->U<G*D)/\
   (∀G R,G*dt+R=un*4294967296+u1->G*d2<=R*4294967296+u2->G<=4294967296->G*D<=U+D):=by
 have hw0:off+n<o.length:=by omega
 have hw1:off+(n-1)<o.length:=by omega
 have hw2:off+(n-2)<o.length:=by omega
 have hd1:n-1<ds.length:=by omega
 have hd2l:n-2<ds.length:=by omega
 have l1:u1<4294967296:=by rw [hu1];exact holt _ (List.getElem_mem hw1)
 have l2:u2<4294967296:=by rw [hu2];exact holt _ (List.getElem_mem hw2)
 have l4:d2<4294967296:=by rw [hd2];exact hdlt _ (List.getElem_mem hd2l)
 have hGR:(un*4294967296+u1)/dt*dt+(un*4294967296+u1)%dt=un*4294967296+u1:=by rw [Nat.mul_comm];exact Nat.div_add_mod _ _
 have hR0l:(un*4294967296+u1)%dt<dt:=Nat.mod_lt _ (by omega);have hM:∃M D0 U0,0<M/\D0<M/\U0<M/\D=(dt*4294967296+d2)*M+D0/\U=((un*4294967296+u1)*4294967296+u2)*M+U0:=by
  obtain ⟨D0,h1,h2⟩:=jt hdlt (n-2) (by omega);obtain ⟨U0,h3,h4⟩:=ju (xs:=(o.drop off).take (n+1)) (fun x hx=>holt x (List.mem_of_mem_drop (List.mem_of_mem_take hx))) (n-2) (by simp;omega);refine ⟨4294967296^(n-2),D0,U0,gT _,h1,h3,?_,?_⟩
  ·rw [hD,h2,show n-2+1=n-1 by omega];simp [List.getD,hd1,hd2l,←hdt,←hd2]
  rw [hU,h4,show n-2+1=n-1 by omega,show n-2+2=n by omega];have g0:((o.drop off).take (n+1)).getD n 0=un:=by simp [List.getD,hw0,←hun]
  have g1:((o.drop off).take (n+1)).getD (n-1) 0=u1:=by simp [List.getD,hw1,←hu1,show n-1<n+1 by omega]
  have g2:((o.drop off).take (n+1)).getD (n-2) 0=u2:=by simp [List.getD,hw2,←hu2,show n-2<n+1 by omega]
  rw [g0,g1,g2]
 obtain ⟨M,D0,U0,hM0,hD0,hU0,hDe,hUe⟩:=hM;have hun_le:un<=dt:=mD hDe hUe hD0 l4 hUD;have hG0l:=mE htop hun_le l1 hGR;have hGU:=iq hDe hUe hU0 l2 hGR hR0l;have hDpos:0<D:=by
  rw [hDe];have:1*M<=(dt*4294967296+d2)*M:=Nat.mul_le_mul_right _ (by omega);omega
 exact ⟨_,_,rfl,rfl,hGR,hR0l,hG0l,hGU,hDpos,fun G R h hg=>ki (G:=G) (R:=R) hDe hUe hU0 h hg,fun G R h hg hG=>js (G:=G) (R:=R) hDe hUe hD0 hU0 (by omega) h hg hG⟩
end Go.Proofs.YtclkgcigacbmiaaGreatDoor
