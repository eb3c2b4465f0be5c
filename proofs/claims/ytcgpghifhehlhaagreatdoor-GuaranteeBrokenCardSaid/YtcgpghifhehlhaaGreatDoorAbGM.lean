/- Groups of estates as cells; comparisons of legs; maps of legs. -/
import Derived.Test.YtcgpghifhehlhaaGreatDoorAb11M
import Derived.Test.YtcgpghifhehlhaaGreatDoorGrpM
set_option linter.unusedVariables false
set_option linter.unusedSimpArgs false
namespace Go.Proofs.YtcgpghifhehlhaaGreatDoor
open Go Go.RowKit Go.Proofs.Tryz
def aA (c:GClaim):List C:=[.lit (.int .i64 c.holder),.lit (.int .i64 c.rank),.lit (.bool c.amount.neg),.lit (.string c.amount.num),.lit (.string c.amount.den)]
def aT (p:GPart):List C:=[.lit (.int .i64 p.claim),.lit (.bool p.capped),.lit (.bool p.cap.neg),.lit (.string p.cap.num),.lit (.string p.cap.den)]
def bo (t:List GPart):List C:=[.sh 5 t.length (ar aT t)]
def aU (a:cw):List C:=[.sh 1 a.length (ar bo a)]
def bh (e:GEst):List C:=[.lit (.bool e.cash.neg),.lit (.string e.cash.num),.lit (.string e.cash.den),.sh 5 e.claims.length (ar aA e.claims),.sh 1 e.agrs.length (ar aU e.agrs)]
abbrev Leg:=Int×Int
def bp (l:Leg):List C:=[.lit (.int .i64 l.1),.lit (.int .i64 l.2)]
def cn (d:GDebt):List C:=[.lit (.bool d.whole.neg),.lit (.string d.whole.num),.lit (.string d.whole.den),.sh 2 d.legs.length (ar bp d.legs)]
def au (g:GGrp):List C:=[.sh 5 g.ests.length (ar bh g.ests),.sh 4 g.debts.length (ar cn g.debts)]
def cI (n:Int):List C:=[.lit (.int .i64 n)]
theorem bX (c:GClaim):(aA c).length=5:=rfl
theorem gj (c:GPart):(aT c).length=5:=rfl
theorem eI (c:List GPart):(bo c).length=1:=rfl
theorem dG (c:cw):(aU c).length=1:=rfl
theorem de (c:GEst):(bh c).length=5:=rfl
theorem cr (c:Leg):(bp c).length=2:=rfl
theorem dT (c:GDebt):(cn c).length=4:=rfl
theorem qP (c:Int):(cI c).length=1:=rfl
theorem bA (c:GClaim):av (aA c)=true:=rfl
theorem eJ (c:GPart):av (aT c)=true:=rfl
theorem cA (t:List GPart):av (bo t)=true:=by simp [bo,av,az,ab eJ]
theorem bg (a:cw):av (aU a)=true:=by simp [aU,av,az,ab cA]
theorem ak (e:GEst):av (bh e)=true:=by simp [bh,av,az,ab bA,ab bg]
theorem mN (c:Leg):av (bp c)=true:=rfl
theorem ai (d:GDebt):av (cn d)=true:=by simp [cn,av,az,ab mN]
theorem rV (n:Int):av (cI n)=true:=rfl
def iI (l:Leg):Value:= .agg #[.int .i64 l.1,.int .i64 l.2]
def jV (T:List Leg):List C:=T.map fun l=>ent (iI l) (.bool true)
theorem kw (a b:Leg):eqW (iI a) (iI b)=decide (a=b):=by
 obtain ⟨a1,a2⟩:=a;obtain ⟨b1,b2⟩:=b;simp only [eqW,iI,oc,eqV,Bool.and_true];by_cases h1:a1=b1<;>by_cases h2:a2=b2<;>simp [h1,h2]
theorem lD (l:Leg):∀T:List Leg,gK (iI l) (jV T)=if l∈T then some (.bool true) else none
 |[]=>rfl
 |a::T=>by
  simp only [jV,List.map_cons,gK,oo,kw,decide_eq_true_eq,List.mem_cons];by_cases h:l=a
  ·simp [h]
  have:=lD l T;simp only [jV] at this;simp [h,this]
theorem pp (l:Leg):∀T:List Leg,l∉T->jI (iI l) (.bool true) (jV T)=jV (T++[l])
 |[],_=>rfl
 |a::T,h=>by
  simp only [List.mem_cons,not_or] at h;have:=pp l T h.2;simp only [jV] at this;simp only [jV,List.map_cons,jI,oo,kw,decide_eq_true_eq,h.1,if_false,List.cons_append,this]
theorem lE : (prog.fieldsOf 44).toList = [⟨ "Estate", 3, 0, false, "", "", 0⟩, ⟨ "Claim", 3, 1, false, "", "", 8⟩] := by kernel_rfl
theorem xk:ldT prog 3=some (false,1):=by kernel_rfl
theorem pq (cs:Array Value) (i:Nat) (v:Value) (h:cs[i]? =some v) (w:World):(part 3 cs i).run prog w= .ok v w:=by
 simp [part,(kq xk w).1,h]
theorem ve (x y:Value) (w:World):(part 3 #[x,y] 0).run prog w= .ok x w:=pq _ 0 _ rfl w
theorem vf (x y:Value) (w:World):(part 3 #[x,y] 1).run prog w= .ok y w:=pq _ 1 _ rfl w
theorem tD (a b:Leg) (w:World):(Op.equal 44 (iI a) (iI b)).run prog w= .ok (decide (a=b)) w:=by
 obtain ⟨a1,a2⟩:=a;obtain ⟨b1,b2⟩:=b;have h2:=run_equalIn_agg (P:=prog) w 9999 44 #[.int .i64 a1,.int .i64 a2] #[.int .i64 b1,.int .i64 b2] (by kernel_rfl) (by kernel_rfl);have h3:(Op.equal 44 (iI (a1,a2)) (iI (b1,b2))).run prog w=(Op.equalIn (9999+1) 44 (.agg #[.int .i64 a1,.int .i64 a2]) (.agg #[.int .i64 b1,.int .i64 b2])).run prog w:=rfl;have hi:=fun (x y:Int)=>run_equalIn_int (P:=prog) w 9998 3 .i64 .i64 x y (by kernel_rfl)
 rw [h3,h2,lE];have n1 : ¬ "Estate" = "_" := by decide
 have n2 : ¬ "Claim" = "_" := by decide
 simp only [Op.eqFields,ne_eq,n1,n2,not_false_eq_true,if_true,Sem.run_bind,ve,Result.andThen_ok,hi];by_cases g1:a1=b1<;>by_cases g2:a2=b2<;>simp [g1,g2,hi,vf]
theorem xl (b:Bool) (l:Leg) (w:World):(Instr.checkKey b 10000 44 (iI l)).run prog w= .ok () w:=by
 have hu:prog.underlying 44=some (.struct (prog.fieldsOf 44)):=by kernel_rfl
 have hi:prog.underlying 3=some (.int .i64):=by kernel_rfl
 have k:∀d v,(Instr.checkKey b (d+1) 3 (.int .i64 v)).run prog w= .ok () w:=fun d v=>by
  simp [Instr.checkKey,underlying,hi]
 have e:(Instr.checkKey b (9999+1) 44 (iI l)).run prog w= .ok () w:=by
  have n1 : ¬ "Estate" = "_" := by decide
  have n2 : ¬ "Claim" = "_" := by decide
  rw [Instr.checkKey];simp only [Sem.run_bind,run_underlying hu,Result.andThen_ok,iI];rw [←Array.forIn_toList,lE];simp [List.forIn_cons,n1,n2,ve,vf,k 9998]
 exact e
theorem qQ (l:Leg) (T:List Leg):MK prog 44 (iI l) (jV T):=by
 refine ⟨fun b w=>xl b l w,.struct (prog.fieldsOf 44),by kernel_rfl,fun c hc=>?_⟩;obtain ⟨x,hx,rfl⟩:=List.mem_map.1 hc;refine ⟨iI x,.bool true,rfl,fun w=>by rw [kw];exact tD l x w,.inl rfl,fun h=>?_⟩;rw [kw] at h;obtain rfl:=of_decide_eq_true h;simp [iI,Instr.sameBits]
theorem xm (l:Leg) (T:List Leg) (h:l∈T):gK (.agg #[.int .i64 l.1,.int .i64 l.2]) (jV T)=some (.bool true):=by
 have:=lD l T;rw [if_pos h] at this;exact this
theorem vg (l:Leg) (T:List Leg) (h:l∉T):gK (.agg #[.int .i64 l.1,.int .i64 l.2]) (jV T)=none:=by
 have:=lD l T;rw [if_neg h] at this;exact this
theorem vh (l:Leg) (T:List Leg) (h:l∉T):jI (.agg #[.int .i64 l.1,.int .i64 l.2]) (.bool true) (jV T)=jV (T++[l]):=pp l T h
end Go.Proofs.YtcgpghifhehlhaaGreatDoor
