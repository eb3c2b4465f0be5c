/- Groups of estates as cells; comparisons of legs; maps of legs. -/
import Derived.Test.YtclkgcigacbmiaaGreatDoorAb11M
import Derived.Test.YtclkgcigacbmiaaGreatDoorGrpM
set_option linter.unusedVariables false
set_option linter.unusedSimpArgs false
namespace Go.Proofs.YtclkgcigacbmiaaGreatDoor
open Go Go.RowKit Go.Proofs.Tryz
abbrev Leg:=Int×Int
def dv (l:Leg):Value:= .agg #[.int .i64 l.1,.int .i64 l.2]
def zZ (T:List Leg):List C:=T.map fun l=>ent (dv l) (.bool true)
theorem o7 (a b:Leg):eqW (dv a) (dv b)=decide (a=b):=by
 obtain ⟨a1,a2⟩:=a;obtain ⟨b1,b2⟩:=b;simp only [eqW,dv,fD,eqV,Bool.and_true];by_cases h1:a1=b1<;>by_cases h2:a2=b2<;>simp [h1,h2]
theorem er : (prog.fieldsOf 84).toList = [⟨ "Estate", 3, 0, false, "", "", 0⟩, ⟨ "Claim", 3, 1, false, "", "", 8⟩] := by kernel_rfl
theorem tR:ldT prog 3=some (false,1):=by kernel_rfl
theorem jG (cs:Array Value) (i:Nat) (v:Value) (h:cs[i]? =some v) (w:World):(part 3 cs i).run prog w= .ok v w:=by
 simp [part,(e6 tR w).1,h]
theorem lE (x y:Value) (w:World):(part 3 #[x,y] 0).run prog w= .ok x w:=jG _ 0 _ rfl w
theorem lF (x y:Value) (w:World):(part 3 #[x,y] 1).run prog w= .ok y w:=jG _ 1 _ rfl w
theorem qd (a b:Leg) (w:World):(Op.equal 84 (dv a) (dv b)).run prog w= .ok (decide (a=b)) w:=by
 obtain ⟨a1,a2⟩:=a;obtain ⟨b1,b2⟩:=b;have h2:=run_equalIn_agg (P:=prog) w 9999 84 #[.int .i64 a1,.int .i64 a2] #[.int .i64 b1,.int .i64 b2] (by kernel_rfl) (by kernel_rfl);have h3:(Op.equal 84 (dv (a1,a2)) (dv (b1,b2))).run prog w=(Op.equalIn (9999+1) 84 (.agg #[.int .i64 a1,.int .i64 a2]) (.agg #[.int .i64 b1,.int .i64 b2])).run prog w:=rfl;have hi:=fun (x y:Int)=>run_equalIn_int (P:=prog) w 9998 3 .i64 .i64 x y (by kernel_rfl)
 rw [h3,h2,er];have n1 : ¬ "Estate" = "_" := by decide
 have n2 : ¬ "Claim" = "_" := by decide
 simp only [Op.eqFields,ne_eq,n1,n2,not_false_eq_true,if_true,Sem.run_bind,lE,Result.andThen_ok,hi];by_cases g1:a1=b1<;>by_cases g2:a2=b2<;>simp [g1,g2,hi,lF]
theorem tS (b:Bool) (l:Leg) (w:World):(Instr.checkKey b 10000 84 (dv l)).run prog w= .ok () w:=by
 have hu:prog.underlying 84=some (.struct (prog.fieldsOf 84)):=by kernel_rfl
 have hi:prog.underlying 3=some (.int .i64):=by kernel_rfl
 have k:∀d v,(Instr.checkKey b (d+1) 3 (.int .i64 v)).run prog w= .ok () w:=fun d v=>by
  simp [Instr.checkKey,underlying,hi]
 have e:(Instr.checkKey b (9999+1) 84 (dv l)).run prog w= .ok () w:=by
  have n1 : ¬ "Estate" = "_" := by decide
  have n2 : ¬ "Claim" = "_" := by decide
  rw [Instr.checkKey];simp only [Sem.run_bind,run_underlying hu,Result.andThen_ok,dv];rw [←Array.forIn_toList,er];simp [List.forIn_cons,n1,n2,lE,lF,k 9998]
 exact e
theorem wP (l:Leg) (T:List Leg):MK prog 84 (dv l) (zZ T):=by
 refine ⟨fun b w=>tS b l w,.struct (prog.fieldsOf 84),by kernel_rfl,fun c hc=>?_⟩;obtain ⟨x,hx,rfl⟩:=List.mem_map.1 hc;refine ⟨dv x,.bool true,rfl,fun w=>by rw [o7];exact qd l x w,.inl rfl,fun h=>?_⟩;rw [o7] at h;obtain rfl:=of_decide_eq_true h;simp [dv,Instr.sameBits]
end Go.Proofs.YtclkgcigacbmiaaGreatDoor
