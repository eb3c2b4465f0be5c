/- Groups of estates as cells; comparisons of legs; maps of legs. -/
import Derived.Test.YtokmkopihhnggaaDoorAb11M
import Derived.Test.YtokmkopihhnggaaDoorGrpM
set_option linter.unusedVariables false
set_option linter.unusedSimpArgs false
set_option linter.defProp false
set_option linter.unnecessarySimpa false
/- Groups of estates as cells; comparisons of legs; maps of legs. -/
namespace Go.Proofs.YtokmkopihhnggaaDoor
open Go Go.RowKit
def cClaim (c : GClaim) : List C := [.lit (.int .i64 c.holder), .lit (.int .i64 c.rank), .lit (.bool c.amount.neg), .lit (.string c.amount.num), .lit (.string c.amount.den)]
def cPart (p : GPart) : List C := [.lit (.int .i64 p.claim), .lit (.bool p.capped), .lit (.bool p.cap.neg), .lit (.string p.cap.num), .lit (.string p.cap.den)]
def cTier (t : List GPart) : List C := [.sh 5 t.length (flat cPart t)]
def cAgr (a : GAgr) : List C := [.sh 1 a.length (flat cTier a)]
def cEst (e : GEst) : List C := [.lit (.bool e.cash.neg), .lit (.string e.cash.num), .lit (.string e.cash.den), .sh 5 e.claims.length (flat cClaim e.claims), .sh 1 e.agrs.length (flat cAgr e.agrs)]
abbrev Leg := Int × Int
def cLeg (l : Leg) : List C := [.lit (.int .i64 l.1), .lit (.int .i64 l.2)]
def cDebt (d : GDebt) : List C := [.lit (.bool d.whole.neg), .lit (.string d.whole.num), .lit (.string d.whole.den), .sh 2 d.legs.length (flat cLeg d.legs)]
def cGrp (g : GGrp) : List C := [.sh 5 g.ests.length (flat cEst g.ests), .sh 4 g.debts.length (flat cDebt g.debts)]
def cI (n : Int) : List C := [.lit (.int .i64 n)]
theorem cClaim_len (c : GClaim) : (cClaim c).length = 5 := rfl
theorem cPart_len (c : GPart) : (cPart c).length = 5 := rfl
theorem cTier_len (c : List GPart) : (cTier c).length = 1 := rfl
theorem cAgr_len (c : GAgr) : (cAgr c).length = 1 := rfl
theorem cEst_len (c : GEst) : (cEst c).length = 5 := rfl
theorem cLeg_len (c : Leg) : (cLeg c).length = 2 := rfl
theorem cDebt_len (c : GDebt) : (cDebt c).length = 4 := rfl
theorem cI_len (c : Int) : (cI c).length = 1 := rfl
theorem cClaim_pure (c : GClaim) : pureCs (cClaim c) = true := rfl
theorem cPart_pure (c : GPart) : pureCs (cPart c) = true := rfl
theorem cTier_pure (t : List GPart) : pureCs (cTier t) = true := by simp [cTier, pureCs, pureC, flat_pure cPart_pure]
theorem cAgr_pure (a : GAgr) : pureCs (cAgr a) = true := by simp [cAgr, pureCs, pureC, flat_pure cTier_pure]
theorem cEst_pure (e : GEst) : pureCs (cEst e) = true := by simp [cEst, pureCs, pureC, flat_pure cClaim_pure, flat_pure cAgr_pure]
theorem cLeg_pure (c : Leg) : pureCs (cLeg c) = true := rfl
theorem cDebt_pure (d : GDebt) : pureCs (cDebt d) = true := by simp [cDebt, pureCs, pureC, flat_pure cLeg_pure]
theorem cI_pure (n : Int) : pureCs (cI n) = true := rfl
def legV (l : Leg) : Value := .agg #[.int .i64 l.1, .int .i64 l.2]
def setC (T : List Leg) : List C := T.map fun l => ent (legV l) (.bool true)
theorem eqW_leg (a b : Leg) : eqW (legV a) (legV b) = decide (a = b) := by
  obtain ⟨a1, a2⟩ := a
  obtain ⟨b1, b2⟩ := b
  simp only [eqW, legV, eqVs, eqV, Bool.and_true]
  by_cases h1 : a1 = b1 <;> by_cases h2 : a2 = b2 <;> simp [h1, h2]
theorem mget_set (l : Leg) : ∀ T : List Leg, mget (legV l) (setC T) = if l ∈ T then some (.bool true) else none
  | [] => rfl
  | a :: T => by
    simp only [setC, List.map_cons, mget, kvOf_ent, eqW_leg, decide_eq_true_eq, List.mem_cons]
    by_cases h : l = a
    · simp [h]
    have := mget_set l T
    simp only [setC] at this
    simp [h, this]
theorem mput_set (l : Leg) : ∀ T : List Leg, l ∉ T → mput (legV l) (.bool true) (setC T) = setC (T ++ [l])
  | [], _ => rfl
  | a :: T, h => by
    simp only [List.mem_cons, not_or] at h
    have := mput_set l T h.2
    simp only [setC] at this
    simp only [setC, List.map_cons, mput, kvOf_ent, eqW_leg, decide_eq_true_eq, h.1, if_false, List.cons_append, this]
theorem leg_fields : (Tryd.prog.fieldsOf 38).toList = [⟨ "Estate", 3, 0, false, "", "", 0⟩, ⟨ "Claim", 3, 1, false, "", "", 8⟩] := by kernel_rfl
theorem int_one : ldT Tryd.prog 3 = some (false, 1) := by kernel_rfl
theorem part_int (cs : Array Value) (i : Nat) (v : Value) (h : cs[i]? = some v) (w : World) : (part 3 cs i).run Tryd.prog w = .ok v w := by
  simp [part, (ldT_one int_one w).1, h]
theorem part_0 (x y : Value) (w : World) : (part 3 #[x, y] 0).run Tryd.prog w = .ok x w := part_int _ 0 _ rfl w
theorem part_1 (x y : Value) (w : World) : (part 3 #[x, y] 1).run Tryd.prog w = .ok y w := part_int _ 1 _ rfl w
theorem leg_equal (a b : Leg) (w : World) : (Op.equal 38 (legV a) (legV b)).run Tryd.prog w = .ok (decide (a = b)) w := by
  obtain ⟨a1, a2⟩ := a
  obtain ⟨b1, b2⟩ := b
  have h2 := run_equalIn_agg (P := Tryd.prog) w 9999 38 #[.int .i64 a1, .int .i64 a2] #[.int .i64 b1, .int .i64 b2] (by kernel_rfl) (by kernel_rfl)
  have h3 : (Op.equal 38 (legV (a1, a2)) (legV (b1, b2))).run Tryd.prog w = (Op.equalIn (9999 + 1) 38 (.agg #[.int .i64 a1, .int .i64 a2]) (.agg #[.int .i64 b1, .int .i64 b2])).run Tryd.prog w := rfl
  have hi := fun (x y : Int) => run_equalIn_int (P := Tryd.prog) w 9998 3 .i64 .i64 x y (by kernel_rfl)
  rw [h3, h2, leg_fields]
  have n1 : ¬ "Estate" = "_" := by decide
  have n2 : ¬ "Claim" = "_" := by decide
  simp only [Op.eqFields, ne_eq, n1, n2, not_false_eq_true, if_true, Sem.run_bind, part_0, part_1, Result.andThen_ok, hi]
  by_cases g1 : a1 = b1 <;> by_cases g2 : a2 = b2 <;> simp [g1, g2, hi, part_0, part_1, Op.eqFields]
theorem leg_key (b : Bool) (l : Leg) (w : World) : (Instr.checkKey b 10000 38 (legV l)).run Tryd.prog w = .ok () w := by
  have hu : Tryd.prog.underlying 38 = some (.struct (Tryd.prog.fieldsOf 38)) := by kernel_rfl
  have hi : Tryd.prog.underlying 3 = some (.int .i64) := by kernel_rfl
  have k : ∀ d v, (Instr.checkKey b (d + 1) 3 (.int .i64 v)).run Tryd.prog w = .ok () w := fun d v => by
    simp [Instr.checkKey, underlying, hi]
  have e : (Instr.checkKey b (9999 + 1) 38 (legV l)).run Tryd.prog w = .ok () w := by
    have n1 : ¬ "Estate" = "_" := by decide
    have n2 : ¬ "Claim" = "_" := by decide
    rw [Instr.checkKey]
    simp only [Sem.run_bind, run_underlying hu, Result.andThen_ok, legV]
    rw [← Array.forIn_toList, leg_fields]
    simp [List.forIn_cons, n1, n2, part_0, part_1, k 9998]
  exact e
theorem MK_leg (l : Leg) (T : List Leg) : MK Tryd.prog 38 (legV l) (setC T) := by
  refine ⟨fun b w => leg_key b l w, .struct (Tryd.prog.fieldsOf 38), by kernel_rfl, fun c hc => ?_⟩
  obtain ⟨x, hx, rfl⟩ := List.mem_map.1 hc
  refine ⟨legV x, .bool true, rfl, fun w => by rw [eqW_leg]; exact leg_equal l x w, .inl rfl, fun h => ?_⟩
  rw [eqW_leg] at h
  obtain rfl := of_decide_eq_true h
  simp [legV, Instr.sameBits]
theorem mget_in (l : Leg) (T : List Leg) (h : l ∈ T) : mget (.agg #[.int .i64 l.1, .int .i64 l.2]) (setC T) = some (.bool true) := by
  have := mget_set l T; rw [if_pos h] at this; exact this
theorem mget_out (l : Leg) (T : List Leg) (h : l ∉ T) : mget (.agg #[.int .i64 l.1, .int .i64 l.2]) (setC T) = none := by
  have := mget_set l T; rw [if_neg h] at this; exact this
theorem mput_new (l : Leg) (T : List Leg) (h : l ∉ T) : mput (.agg #[.int .i64 l.1, .int .i64 l.2]) (.bool true) (setC T) = setC (T ++ [l]) := mput_set l T h
end Go.Proofs.YtokmkopihhnggaaDoor
