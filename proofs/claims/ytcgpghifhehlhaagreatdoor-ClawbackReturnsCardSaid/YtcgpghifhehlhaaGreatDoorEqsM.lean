/- Numbers, claims and parts compared with themselves. No walk. -/
import Derived.Test.YtcgpghifhehlhaaGreatDoorAbGM
import Derived.Shelf.Sort.Plain
import Derived.Shelf.Slices.CompactI
import Derived.Shelf.Slices.In.SortNone
import Derived.Test.YtcgpghifhehlhaaGreatDoorProg
import Derived.Sort.OwnSortedInts
import Derived.Lib.RowBridge
set_option linter.unusedVariables false
set_option linter.unusedSimpArgs false
namespace Go.Proofs.YtcgpghifhehlhaaGreatDoor
open Go Go.RowKit Go.Proofs.Tryz
theorem Bp : (prog.fieldsOf 32).toList = [⟨"Neg", 4, 0, false, "", "", 0⟩, ⟨"Num", 9, 1, false, "", "", 8⟩, ⟨"Den", 9, 2, false, "", "", 24⟩] := by kernel_rfl
theorem Cw:ldT prog 4=some (false,1):=by kernel_rfl
theorem Bq:ldT prog 9=some (false,1):=by kernel_rfl
theorem CS:ldT prog 32=some (true,3):=by kernel_rfl
theorem BI (cs:Array Value) (i:Nat) (v:Value) (h:cs[i]? =some v) (w:World):(part 4 cs i).run prog w= .ok v w:=by
 simp [part,(kq Cw w).1,h]
theorem AZ (cs:Array Value) (i:Nat) (v:Value) (h:cs[i]? =some v) (w:World):(part 9 cs i).run prog w= .ok v w:=by
 simp [part,(kq Bq w).1,h]
theorem Cx (cs:Array Value) (i:Nat) (a b c:Value) (h:cs.extract i (i+3)= #[a,b,c]) (h2:i+3<=cs.size) (w:World):(part 32 cs i).run prog w= .ok (.agg #[a,b,c]) w:=by
 simp [part,(jk CS w).1,h]
theorem DV (x:Bool) (y z:ByteArray) (d:Nat) (w:World):(Op.equalIn (d+2) 32 (.agg #[.bool x,.string y,.string z]) (.agg #[.bool x,.string y,.string z])).run prog w= .ok true w:=by
 have h2:=run_equalIn_agg (P:=prog) w (d+1) 32 #[.bool x,.string y,.string z] #[.bool x,.string y,.string z] (by kernel_rfl) (by kernel_rfl);have hb:=fun (a b:Bool)=>run_equalIn_bool' (P:=prog) w d 4 a b (by kernel_rfl)
 have hs:=fun (a b:ByteArray)=>run_equalIn_string (P:=prog) w d 9 a b (by kernel_rfl)
 have p0:=BI #[.bool x,.string y,.string z] 0 _ rfl w;have p1:=AZ #[.bool x,.string y,.string z] 1 _ rfl w;have p2:=AZ #[.bool x,.string y,.string z] 2 _ rfl w;rw [h2,Bp];have n1 : ¬ "Neg" = "_" := by decide
 have n2 : ¬ "Num" = "_" := by decide
 have n3 : ¬ "Den" = "_" := by decide
 simp only [Op.eqFields,ne_eq,n1,n2,n3,not_false_eq_true,if_true,Sem.run_bind,p0,Result.andThen_ok];simp [hb,hs,p1,p2]


end Go.Proofs.YtcgpghifhehlhaaGreatDoor
section
/- Contracts of the kit's shelf, laid at this translation by the kit's own tool: slices.Sort and slices.Compact at []int. -/
namespace Go.Proofs
open Go.Shelf Go.Proofs.Tryz
end Go.Proofs
end
namespace Go.Proofs.YtcgpghifhehlhaaGreatDoor
open Go Go.RowKit Go.Proofs.Tryz


instance:Inhabited GClaim:=⟨⟨0,0,⟨false,cc,cc⟩⟩⟩

end Go.Proofs.YtcgpghifhehlhaaGreatDoor
