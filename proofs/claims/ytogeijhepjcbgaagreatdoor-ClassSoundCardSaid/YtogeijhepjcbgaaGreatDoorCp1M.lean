/- Classes in plain terms: what Form, Check and Sum answer; both checks agree. No walk. -/
import Derived.Test.YtogeijhepjcbgaaGreatDoorCs1M
set_option linter.unusedVariables false
set_option linter.unusedSimpArgs false
set_option linter.defProp false
set_option linter.unnecessarySimpa false
/- Classes in plain terms: what Form, Check and Sum answer; both checks agree. No walk. -/
namespace Go.Proofs.YtogeijhepjcbgaaGreatDoor
open Go Go.RowKit
def addCl (out : List GCls) (c : GCls) : List GCls := if (0 : Int) < (c.claims.length : Int) then out ++ [c] else out
noncomputable def blN (e : GEst) (i r : Int) (lim : GRat) (out : List GCls) : Nat → List GCls
  | 0 => out
  | 1 => addCl out (fmS e i r true lim)
  | _ => addCl (addCl out (fmS e i r true lim)) (fmS e i r false lim)
noncomputable def rkN (e : GEst) (i : Int) (lim : GRat) (out : List GCls) : Nat → List GCls
  | 0 => out
  | k + 1 => blN e i k lim (rkN e i lim out k) 2
noncomputable def foE (lim : GRat) : List GEst → Nat → List GCls → List GCls
  | [], _, out => out
  | e :: l, i, out => foE lim l (i + 1) (rkN e i lim out 8)
noncomputable def foC (gc : Int) (lim : GRat) (g : GGrp) : Int := if gc = 0 then (if (64 : Int) < ((foE lim g.ests 0 []).length : Int) then 2 else 0) else gc
noncomputable def foL (gc : Int) (lim : GRat) (g : GGrp) : List GCls := if gc = 0 then (if (64 : Int) < ((foE lim g.ests 0 []).length : Int) then [] else foE lim g.ests 0 []) else []
theorem addCl_len (out : List GCls) (c : GCls) : (addCl out c).length ≤ out.length + 1 := by unfold addCl; split <;> simp
theorem blN_len (e : GEst) (i r : Int) (lim : GRat) (out : List GCls) (n : Nat) : (blN e i r lim out n).length ≤ out.length + 2 := by
  unfold blN
  split
  · omega
  · have := addCl_len out (fmS e i r true lim); omega
  have := addCl_len out (fmS e i r true lim)
  have := addCl_len (addCl out (fmS e i r true lim)) (fmS e i r false lim)
  omega
theorem rkN_len (e : GEst) (i : Int) (lim : GRat) (out : List GCls) : ∀ n, (rkN e i lim out n).length ≤ out.length + 2 * n
  | 0 => by simp [rkN]
  | k + 1 => by
    have h1 := rkN_len e i lim out k
    have h2 := blN_len e i k lim (rkN e i lim out k) 2
    simp only [rkN]; omega
theorem foE_len (lim : GRat) : ∀ (l : List GEst) (i : Nat) (out : List GCls), (foE lim l i out).length ≤ out.length + 16 * l.length
  | [], _, _ => by simp [foE]
  | e :: l, i, out => by
    have h1 := rkN_len e i lim out 8
    have h2 := foE_len lim l (i + 1) (rkN e i lim out 8)
    simp only [foE, List.length_cons]; omega
def okFc (n : Nat) (c : GCls) : Prop := c.claims ≠ [] ∧ c.claims.length ≤ n
theorem addCl_ok {n : Nat} {out : List GCls} {c : GCls} (h : ∀ x ∈ out, okFc n x) (hc : c.claims.length ≤ n) : ∀ x ∈ addCl out c, okFc n x := by
  unfold addCl
  split
  · rename_i hlt
    intro x hx
    rcases List.mem_append.1 hx with hx | hx
    · exact h x hx
    obtain rfl : x = c := by simpa using hx
    refine ⟨fun h0 => ?_, hc⟩
    rw [h0] at hlt; simp at hlt
  exact h
theorem fmS_len (e : GEst) (i r : Int) (s : Bool) (lim : GRat) : (fmS e i r s lim).claims.length ≤ e.claims.length := by
  have := fmL_len r s lim e.claims 0 []
  simpa [fmS] using this
theorem blN_ok {n : Nat} {e : GEst} {i r : Int} {lim : GRat} {out : List GCls} (h : ∀ x ∈ out, okFc n x) (he : e.claims.length ≤ n) (m : Nat) : ∀ x ∈ blN e i r lim out m, okFc n x := by
  have hs := fun s => Nat.le_trans (fmS_len e i r s lim) he
  unfold blN
  split
  · exact h
  · exact addCl_ok h (hs true)
  exact addCl_ok (addCl_ok h (hs true)) (hs false)
theorem rkN_ok {n : Nat} {e : GEst} {i : Int} {lim : GRat} {out : List GCls} (h : ∀ x ∈ out, okFc n x) (he : e.claims.length ≤ n) : ∀ m, ∀ x ∈ rkN e i lim out m, okFc n x
  | 0 => h
  | m + 1 => blN_ok (rkN_ok h he m) he 2
theorem foE_ok {n : Nat} {lim : GRat} : ∀ {l : List GEst} {i : Nat} {out : List GCls}, (∀ e ∈ l, e.claims.length ≤ n) → (∀ x ∈ out, okFc n x) → ∀ x ∈ foE lim l i out, okFc n x
  | [], _, _, _, h => h
  | e :: l, i, out, he, h => foE_ok (l := l) (fun x hx => he x (List.mem_cons_of_mem _ hx)) (rkN_ok h (he e (by simp)) 8)
noncomputable def smL (cl : List GClaim) : List Int → Rat → Int × Rat
  | [], q => (0, q)
  | k :: l, q => if k < 0 then (1, 0) else if (cl.length : Int) ≤ k then (1, 0) else smL cl l (q + qOf (cl.getD k.toNat default).amount)
noncomputable def smS (gc : Int) (g : GGrp) (c : GCls) : Int × Rat := if gc = 0 then (if c.est < 0 then (1, 0) else if (g.ests.length : Int) ≤ c.est then (1, 0) else smL (g.ests.getD c.est.toNat ztEst).claims c.claims 0) else (gc, 0)
noncomputable def ckL (cl : List GClaim) (est rank : Int) : List Int → List Leg → Int × List Leg
  | [], T => (0, T)
  | k :: l, T => if k < 0 then (1, T) else if (cl.length : Int) ≤ k then (1, T) else if elB (cl.getD k.toNat default) = true then (if (cl.getD k.toNat default).rank = rank then (if (est, k) ∈ T then (12, T) else ckL cl est rank l (T ++ [(est, k)])) else (13, T)) else (13, T)
noncomputable def ckC (g : GGrp) (c : GCls) (T : List Leg) : Int × List Leg := if c.est < 0 then (1, T) else if (g.ests.length : Int) ≤ c.est then (1, T) else if (c.claims.length : Int) = 0 then (21, T) else ckL (g.ests.getD c.est.toNat ztEst).claims c.est c.rank c.claims T
noncomputable def ckA (g : GGrp) : List GCls → List Leg → Int × List Leg
  | [], T => (0, T)
  | c :: l, T => if (ckC g c T).1 = 0 then ckA g l (ckC g c T).2 else ((ckC g c T).1, T)
noncomputable def nnC (T : List Leg) (i : Nat) : List GClaim → Nat → Bool
  | [], _ => true
  | c :: l, k => if elB c = true then (if ((i : Int), (k : Int)) ∈ T then nnC T i l (k + 1) else false) else nnC T i l (k + 1)
noncomputable def nnE (T : List Leg) : List GEst → Nat → Bool
  | [], _ => true
  | e :: l, i => if nnC T i e.claims 0 = true then nnE T l (i + 1) else false
noncomputable def ckS (gc : Int) (g : GGrp) (l : List GCls) : Int := if gc = 0 then (if (64 : Int) < (l.length : Int) then 2 else if (ckA g l []).1 = 0 then (if nnE (ckA g l []).2 g.ests 0 = true then 0 else 45) else (ckA g l []).1) else gc
def clLg (c : GCls) : List Leg := c.claims.map fun k => (c.est, k)
def clLegs (l : List GCls) : List Leg := (l.map clLg).flatten
end Go.Proofs.YtogeijhepjcbgaaGreatDoor
