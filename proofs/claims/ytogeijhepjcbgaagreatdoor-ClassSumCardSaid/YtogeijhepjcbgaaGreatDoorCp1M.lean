/- Classes in plain terms: what Form, Check and Sum answer; both checks agree. No walk. -/
import Derived.Test.YtogeijhepjcbgaaGreatDoorCs1M
set_option linter.unusedVariables false
set_option linter.unusedSimpArgs false
set_option linter.defProp false
set_option linter.unnecessarySimpa false
/- Classes in plain terms: what Form, Check and Sum answer; both checks agree. No walk. -/
namespace Go.Proofs.YtogeijhepjcbgaaGreatDoor
open Go Go.RowKit
def addCl (out : List GCls) (c : GCls) : List GCls := if (0 : Int) < (c.claims.length : Int) then out ++ [c] else out
noncomputable def blN (e : GEst) (i r : Int) (lim : GRat) (out : List GCls) : Nat → List GCls
  | 0 => out
  | 1 => addCl out (fmS e i r true lim)
  | _ => addCl (addCl out (fmS e i r true lim)) (fmS e i r false lim)
noncomputable def rkN (e : GEst) (i : Int) (lim : GRat) (out : List GCls) : Nat → List GCls
  | 0 => out
  | k + 1 => blN e i k lim (rkN e i lim out k) 2
noncomputable def foE (lim : GRat) : List GEst → Nat → List GCls → List GCls
  | [], _, out => out
  | e :: l, i, out => foE lim l (i + 1) (rkN e i lim out 8)
noncomputable def foC (gc : Int) (lim : GRat) (g : GGrp) : Int := if gc = 0 then (if (64 : Int) < ((foE lim g.ests 0 []).length : Int) then 2 else 0) else gc
noncomputable def foL (gc : Int) (lim : GRat) (g : GGrp) : List GCls := if gc = 0 then (if (64 : Int) < ((foE lim g.ests 0 []).length : Int) then [] else foE lim g.ests 0 []) else []
theorem addCl_len (out : List GCls) (c : GCls) : (addCl out c).length ≤ out.length + 1 := by unfold addCl; split <;> simp
theorem blN_len (e : GEst) (i r : Int) (lim : GRat) (out : List GCls) (n : Nat) : (blN e i r lim out n).length ≤ out.length + 2 := by
  unfold blN
  split
  · omega
  · have := addCl_len out (fmS e i r true lim); omega
  · have := addCl_len out (fmS e i r true lim)
    have := addCl_len (addCl out (fmS e i r true lim)) (fmS e i r false lim)
    omega
theorem rkN_len (e : GEst) (i : Int) (lim : GRat) (out : List GCls) : ∀ n, (rkN e i lim out n).length ≤ out.length + 2 * n
  | 0 => by simp [rkN]
  | k + 1 => by
    have h1 := rkN_len e i lim out k
    have h2 := blN_len e i k lim (rkN e i lim out k) 2
    simp only [rkN]; omega
noncomputable def smL (cl : List GClaim) : List Int → Rat → Int × Rat
  | [], q => (0, q)
  | k :: l, q => if k < 0 then (1, 0) else if (cl.length : Int) ≤ k then (1, 0) else smL cl l (q + qOf (cl.getD k.toNat default).amount)
noncomputable def smS (gc : Int) (g : GGrp) (c : GCls) : Int × Rat := if gc = 0 then (if c.est < 0 then (1, 0) else if (g.ests.length : Int) ≤ c.est then (1, 0) else smL (g.ests.getD c.est.toNat ztEst).claims c.claims 0) else (gc, 0)
end Go.Proofs.YtogeijhepjcbgaaGreatDoor
