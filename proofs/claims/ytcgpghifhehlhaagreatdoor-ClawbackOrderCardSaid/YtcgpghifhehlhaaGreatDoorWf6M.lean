/- waterfall.Check; walked by the abstract machine. -/
import Derived.Test.YtcgpghifhehlhaaGreatDoorWf2M
set_option linter.unusedVariables false
set_option linter.unusedSimpArgs false
namespace Go.Proofs.YtcgpghifhehlhaaGreatDoor
open Go Go.RowKit
theorem gJ {d:Array Int} {x:Int}:∀m,m<=d.size->x∈Lib.compactUpTo d m->x∈d.toList
 |0,_,h=>by simp [Lib.compactUpTo] at h
 |m+1,hm,h=>by
  rw [Lib.compactUpTo_succ,List.mem_append] at h;rcases h with h|h
  ·exact gJ m (by omega) h
  split at h
  ·simp only [List.mem_singleton] at h;subst h;rw [getElem!_pos d m (by omega)];simp
  cases h
theorem se {a:cw} {i:Int} (h:i∈mem a):i∈dI a.flatten:=by
 have h1:=gJ _ (by simp) h;simpa [Gb] using h1



end Go.Proofs.YtcgpghifhehlhaaGreatDoor
