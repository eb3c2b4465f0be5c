/- Groups compared with themselves: the reference's SameGroup, SameDisputes; walked by the abstract machine. -/
import Derived.Test.YtokmkopihhnggaaGreatDoorDc2M
import Derived.Test.YtokmkopihhnggaaGreatDoorPl7M
set_option linter.unusedVariables false
set_option linter.unusedSimpArgs false
set_option linter.defProp false
namespace Go.Proofs.YtokmkopihhnggaaGreatDoor
open Go Go.RowKit
theorem qrat_fields : (Tryz.prog.fieldsOf 32).toList = [⟨"Neg", 4, 0, false, "", "", 0⟩, ⟨"Num", 9, 1, false, "", "", 8⟩, ⟨"Den", 9, 2, false, "", "", 24⟩] := by kernel_rfl
theorem qbool_one : ldT Tryz.prog 4 = some (false, 1) := by kernel_rfl
theorem qstring_one : ldT Tryz.prog 9 = some (false, 1) := by kernel_rfl
theorem qrat_agg : ldT Tryz.prog 32 = some (true, 3) := by kernel_rfl
theorem qpart_bool (cs : Array Value) (i : Nat) (v : Value) (h : cs[i]? = some v) (w : World) : (part 4 cs i).run Tryz.prog w = .ok v w := by
 simp [part, (ldT_one qbool_one w).1, h]
theorem qpart_str (cs : Array Value) (i : Nat) (v : Value) (h : cs[i]? = some v) (w : World) : (part 9 cs i).run Tryz.prog w = .ok v w := by
 simp [part, (ldT_one qstring_one w).1, h]
theorem qpart_rat (cs : Array Value) (i : Nat) (a b c : Value) (h : cs.extract i (i + 3) = #[a, b, c]) (h2 : i + 3 ≤ cs.size) (w : World) : (part 32 cs i).run Tryz.prog w = .ok (.agg #[a, b, c]) w := by
 simp [part, (ldT_agg qrat_agg w).1, (ldT_agg qrat_agg w).2, h, h2]
theorem rat_in (x : Bool) (y z : ByteArray) (d : Nat) (w : World) : (Op.equalIn (d + 2) 32 (.agg #[.bool x, .string y, .string z]) (.agg #[.bool x, .string y, .string z])).run Tryz.prog w = .ok true w := by
 have h2 := run_equalIn_agg (P := Tryz.prog) w (d + 1) 32 #[.bool x, .string y, .string z] #[.bool x, .string y, .string z] (by kernel_rfl) (by kernel_rfl)
 have hb := fun (a b : Bool) => run_equalIn_bool' (P := Tryz.prog) w d 4 a b (by kernel_rfl)
 have hs := fun (a b : ByteArray) => run_equalIn_string (P := Tryz.prog) w d 9 a b (by kernel_rfl)
 have p0 := qpart_bool #[.bool x, .string y, .string z] 0 _ rfl w
 have p1 := qpart_str #[.bool x, .string y, .string z] 1 _ rfl w
 have p2 := qpart_str #[.bool x, .string y, .string z] 2 _ rfl w
 rw [h2, qrat_fields]
 have n1 : ¬ "Neg" = "_" := by decide
 have n2 : ¬ "Num" = "_" := by decide
 have n3 : ¬ "Den" = "_" := by decide
 simp only [Op.eqFields, ne_eq, n1, n2, n3, not_false_eq_true, if_true, Sem.run_bind, p0, p1, p2, Result.andThen_ok, hb, hs]
 simp [hb, hs, p0, p1, p2, n1, n2, n3, Op.eqFields]
theorem EqK_rat (a : GRat) : EqOK Tryz.prog 32 [.bool a.neg, .string a.num, .string a.den] [.bool a.neg, .string a.num, .string a.den] := fun w => ⟨by
 have h := rat_in a.neg a.num a.den 9998 w
 have h3 : (Op.equal 32 (.agg #[.bool a.neg, .string a.num, .string a.den]) (.agg #[.bool a.neg, .string a.num, .string a.den])).run Tryz.prog w = (Op.equalIn (9998 + 2) 32 (.agg #[.bool a.neg, .string a.num, .string a.den]) (.agg #[.bool a.neg, .string a.num, .string a.den])).run Tryz.prog w := rfl
 show (Op.equal 32 (.agg #[.bool a.neg, .string a.num, .string a.den]) (.agg #[.bool a.neg, .string a.num, .string a.den])).run Tryz.prog w = _
 rw [h3, h]
 simp [eqVs, eqV], by kernel_rfl⟩
theorem eqK_rat (a : GRat) : eqVs [.bool a.neg, .string a.num, .string a.den] [.bool a.neg, .string a.num, .string a.den] = true := by simp [eqVs, eqV]
theorem claim_fields : (Tryz.prog.fieldsOf 38).toList = [⟨"Holder", 3, 0, false, "", "", 0⟩, ⟨"Rank", 3, 1, false, "", "", 8⟩, ⟨"Amount", 32, 2, false, "", "", 16⟩] := by kernel_rfl
theorem EqK_claim (a : GClaim) : EqOK Tryz.prog 38 [.int .i64 a.holder, .int .i64 a.rank, .bool a.amount.neg, .string a.amount.num, .string a.amount.den] [.int .i64 a.holder, .int .i64 a.rank, .bool a.amount.neg, .string a.amount.num, .string a.amount.den] := fun w => ⟨by
 have h2 := run_equalIn_agg (P := Tryz.prog) w 9999 38 #[.int .i64 a.holder, .int .i64 a.rank, .bool a.amount.neg, .string a.amount.num, .string a.amount.den] #[.int .i64 a.holder, .int .i64 a.rank, .bool a.amount.neg, .string a.amount.num, .string a.amount.den] (by kernel_rfl) (by kernel_rfl)
 have h3 : (Op.equal 38 (.agg #[.int .i64 a.holder, .int .i64 a.rank, .bool a.amount.neg, .string a.amount.num, .string a.amount.den]) (.agg #[.int .i64 a.holder, .int .i64 a.rank, .bool a.amount.neg, .string a.amount.num, .string a.amount.den])).run Tryz.prog w = (Op.equalIn (9999 + 1) 38 (.agg #[.int .i64 a.holder, .int .i64 a.rank, .bool a.amount.neg, .string a.amount.num, .string a.amount.den]) (.agg #[.int .i64 a.holder, .int .i64 a.rank, .bool a.amount.neg, .string a.amount.num, .string a.amount.den])).run Tryz.prog w := rfl
 have hi := fun (x y : Int) => run_equalIn_int (P := Tryz.prog) w 9998 3 .i64 .i64 x y (by kernel_rfl)
 have hb := fun (a b : Bool) => run_equalIn_bool' (P := Tryz.prog) w 9998 4 a b (by kernel_rfl)
 have hr := rat_in a.amount.neg a.amount.num a.amount.den 9997 w
 have p0 := part_int #[.int .i64 a.holder, .int .i64 a.rank, .bool a.amount.neg, .string a.amount.num, .string a.amount.den] 0 _ rfl w
 have p1 := part_int #[.int .i64 a.holder, .int .i64 a.rank, .bool a.amount.neg, .string a.amount.num, .string a.amount.den] 1 _ rfl w
 have p2 := qpart_rat #[.int .i64 a.holder, .int .i64 a.rank, .bool a.amount.neg, .string a.amount.num, .string a.amount.den] 2 (.bool a.amount.neg) (.string a.amount.num) (.string a.amount.den) (by rfl) (by simp) w
 show (Op.equal 38 (.agg #[.int .i64 a.holder, .int .i64 a.rank, .bool a.amount.neg, .string a.amount.num, .string a.amount.den]) (.agg #[.int .i64 a.holder, .int .i64 a.rank, .bool a.amount.neg, .string a.amount.num, .string a.amount.den])).run Tryz.prog w = _
 rw [h3, h2, claim_fields]
 have n0 : ¬ "Holder" = "_" := by decide
 have n1 : ¬ "Rank" = "_" := by decide
 have n2 : ¬ "Amount" = "_" := by decide
 simp only [Op.eqFields, ne_eq, n0, n1, n2, not_false_eq_true, if_true, Sem.run_bind, p0, p1, p2, Result.andThen_ok, hi, hb, hr]
 simp [hi, hb, hr, p0, p1, p2, n0, n1, n2, Op.eqFields, eqVs, eqV], by kernel_rfl⟩
theorem eqK_claim (a : GClaim) : eqVs [.int .i64 a.holder, .int .i64 a.rank, .bool a.amount.neg, .string a.amount.num, .string a.amount.den] [.int .i64 a.holder, .int .i64 a.rank, .bool a.amount.neg, .string a.amount.num, .string a.amount.den] = true := by simp [eqVs, eqV]
theorem part_fields : (Tryz.prog.fieldsOf 46).toList = [⟨"Claim", 3, 0, false, "", "", 0⟩, ⟨"Capped", 4, 1, false, "", "", 8⟩, ⟨"Cap", 32, 2, false, "", "", 16⟩] := by kernel_rfl
theorem EqK_part (a : GPart) : EqOK Tryz.prog 46 [.int .i64 a.claim, .bool a.capped, .bool a.cap.neg, .string a.cap.num, .string a.cap.den] [.int .i64 a.claim, .bool a.capped, .bool a.cap.neg, .string a.cap.num, .string a.cap.den] := fun w => ⟨by
 have h2 := run_equalIn_agg (P := Tryz.prog) w 9999 46 #[.int .i64 a.claim, .bool a.capped, .bool a.cap.neg, .string a.cap.num, .string a.cap.den] #[.int .i64 a.claim, .bool a.capped, .bool a.cap.neg, .string a.cap.num, .string a.cap.den] (by kernel_rfl) (by kernel_rfl)
 have h3 : (Op.equal 46 (.agg #[.int .i64 a.claim, .bool a.capped, .bool a.cap.neg, .string a.cap.num, .string a.cap.den]) (.agg #[.int .i64 a.claim, .bool a.capped, .bool a.cap.neg, .string a.cap.num, .string a.cap.den])).run Tryz.prog w = (Op.equalIn (9999 + 1) 46 (.agg #[.int .i64 a.claim, .bool a.capped, .bool a.cap.neg, .string a.cap.num, .string a.cap.den]) (.agg #[.int .i64 a.claim, .bool a.capped, .bool a.cap.neg, .string a.cap.num, .string a.cap.den])).run Tryz.prog w := rfl
 have hi := fun (x y : Int) => run_equalIn_int (P := Tryz.prog) w 9998 3 .i64 .i64 x y (by kernel_rfl)
 have hb := fun (a b : Bool) => run_equalIn_bool' (P := Tryz.prog) w 9998 4 a b (by kernel_rfl)
 have hr := rat_in a.cap.neg a.cap.num a.cap.den 9997 w
 have p0 := part_int #[.int .i64 a.claim, .bool a.capped, .bool a.cap.neg, .string a.cap.num, .string a.cap.den] 0 _ rfl w
 have p1 := qpart_bool #[.int .i64 a.claim, .bool a.capped, .bool a.cap.neg, .string a.cap.num, .string a.cap.den] 1 _ rfl w
 have p2 := qpart_rat #[.int .i64 a.claim, .bool a.capped, .bool a.cap.neg, .string a.cap.num, .string a.cap.den] 2 (.bool a.cap.neg) (.string a.cap.num) (.string a.cap.den) (by rfl) (by simp) w
 show (Op.equal 46 (.agg #[.int .i64 a.claim, .bool a.capped, .bool a.cap.neg, .string a.cap.num, .string a.cap.den]) (.agg #[.int .i64 a.claim, .bool a.capped, .bool a.cap.neg, .string a.cap.num, .string a.cap.den])).run Tryz.prog w = _
 rw [h3, h2, part_fields]
 have n0 : ¬ "Claim" = "_" := by decide
 have n1 : ¬ "Capped" = "_" := by decide
 have n2 : ¬ "Cap" = "_" := by decide
 simp only [Op.eqFields, ne_eq, n0, n1, n2, not_false_eq_true, if_true, Sem.run_bind, p0, p1, p2, Result.andThen_ok, hi, hb, hr]
 simp [hi, hb, hr, p0, p1, p2, n0, n1, n2, Op.eqFields, eqVs, eqV], by kernel_rfl⟩
theorem eqK_part (a : GPart) : eqVs [.int .i64 a.claim, .bool a.capped, .bool a.cap.neg, .string a.cap.num, .string a.cap.den] [.int .i64 a.claim, .bool a.capped, .bool a.cap.neg, .string a.cap.num, .string a.cap.den] = true := by simp [eqVs, eqV]
def F81 := And.intro zS (And.intro tf91 (And.intro tf93 (tf101)))
set_option maxRecDepth 100000 in
set_option maxHeartbeats 4000000 in
theorem SameLegs_yes (l : List Leg) (hl : l.length ≤ 1000000000000) : ACall Tryz.prog 69 [.one (.sh 2 l.length (flat cLeg l)), .one (.sh 2 l.length (flat cLeg l))] (one (.bool true)) := by
 refine acall_of Tryz.func69 rfl (by decide) (N := 26) rfl (by simp) (R := [.tmp 4]) rfl fun en k0 => ?_
 refine awN ?_
 simp only [(id F81), seval]
 repeat refine ob ?_
 refine awN ?_
 simp only [(id F81), seval, decide_true, Bool.not_true, BEq.rfl]
 repeat refine ob ?_
 refine awF ?_
 refine awK ?_
 simp only [(id F81), seval]
 refine awN ?_
 simp only [(id F81), seval]
 repeat refine ob ?_
 refine awp_keep [0, 1, 5] [] ?_
 try unfold Later
 try simp only [(id F81), seval]
 repeat' first|apply awS|apply awB
 refine awp_loopw (fun n st => ∃ k nx, k ≤ l.length ∧ n = l.length - k ∧ st = ⟨mkT [(0, .val (.one (.sh 2 l.length (flat cLeg l)))), (1, .val (.one (.sh 2 l.length (flat cLeg l)))), (5, one (.int .i64 k))], mkH [], nx, 0⟩) (l.length) ⟨0, _, by omega, by omega, rfl⟩ ?_
 rintro n0 st ⟨k, nx0, hk0, rfl, rfl⟩
 by_cases hlt0 : (k : Int) < (l.length : Int)
 ·
  refine awN ?_
  simp only [(id F81), seval, hlt0]
  repeat refine ob ?_
  refine awT ?_
  refine awK ?_
  simp only [(id F81), seval]
  have hk2 : k < l.length := by omega
  have hat := flat_at cLeg_len l k hk2
  have hq := EqOK_leg l[k] l[k]
  have hqv := eqVs_leg l[k] l[k]
  refine awD (scT 0 9 .nil) [none, none, none, none, none, none, none, none, none] ?_
  simp only [(id F81), seval, hlt0, hat, cLeg, hqv, decide_true, Bool.not_true, BEq.rfl]
  repeat refine ob ?_
  try refine ⟨hq, ?_⟩
  repeat refine ob ?_
  refine awF ?_
  refine awK ?_
  simp only [(id F81), seval]
  refine awN ?_
  simp only [(id F81), seval, hlt0]
  repeat refine ob ?_
  repeat refine ob ?_
  refine ⟨_, wk_keep [0, 1, 5] [], l.length - (k + 1), by omega, k + 1, ?na7, by omega, rfl, ?st7⟩
  case st7 => (simp only [(id F81), seval]; first | rfl | (simp; done))
 refine awN ?_
 simp only [(id F81), seval, hlt0]
 repeat refine ob ?_
 refine awF ?_
 refine awQ ?_
 simp only [(id F81), seval]
 refine awN ?_
 simp only [(id F81), seval, hlt0]
 repeat refine ob ?_
 refine awX ?_
 (first | (simp only [(id F81), seval, hlt0]; done) | (simp only [(id F81), seval]; first | (simp [hlt0]; done)))
def F82 := And.intro zS (tf11)
set_option maxRecDepth 100000 in
set_option maxHeartbeats 4000000 in
theorem samePart_yes (a : GPart) : ACall Tryz.prog 157 [.agg (cPart a), .agg (cPart a)] (one (.bool true)) := by
 refine acall_of Tryz.func157 rfl (by decide) (N := 8) rfl (by simp) (R := [.tmp 4]) rfl fun en k0 => ?_
 refine awN ?_
 simp only [(id F82), seval, cPart]
 repeat refine ob ?_
 have hq := EqK_part a
 have hqv := eqK_part a
 refine awN ?_
 simp only [(id F82), seval, cPart, hqv]
 repeat refine ob ?_
 try refine ⟨hq, ?_⟩
 repeat refine ob ?_
 refine awX ?_
 (first | (simp only [(id F82), seval, cPart]; done) | (simp only [(id F82), seval, cPart]; first | (simp []; done)))
def F83 := And.intro zS (And.intro tf1 (And.intro tf6 (And.intro tf2 (And.intro tf0 (And.intro tf8 (And.intro tf10 (And.intro tf3 (tf11))))))))
set_option maxRecDepth 100000 in
set_option maxHeartbeats 4000000 in
theorem sameAgr_yes (a : GAgr) (ha : a.length ≤ 1000000000000 ∧ ∀ t ∈ a, t.length ≤ 1000000000000) : ACall Tryz.prog 118 [.agg (cAgr a), .agg (cAgr a)] (one (.bool true)) := by
 have ha1 := ha.1
 refine acall_of Tryz.func118 rfl (by decide) (N := 62) rfl (by simp) (R := [.tmp 4]) rfl fun en k0 => ?_
 refine awN ?_
 simp only [(id F83), seval, cAgr]
 repeat refine ob ?_
 refine awN ?_
 simp only [(id F83), seval, cAgr, decide_true, Bool.not_true, BEq.rfl]
 repeat refine ob ?_
 refine awF ?_
 refine awK ?_
 simp only [(id F83), seval]
 refine awN ?_
 simp only [(id F83), seval, cAgr]
 repeat refine ob ?_
 refine awp_keep [2, 3, 5] [2, 3] ?_
 try unfold Later
 try simp only [(id F83), seval, cAgr]
 repeat' first|apply awS|apply awB
 refine awp_loopw (fun n st => ∃ k nx, k ≤ a.length ∧ n = a.length - k ∧ st = ⟨mkT [(2, .val (.one (.ptr 2 0 0))), (3, .val (.one (.ptr 3 1 0))), (5, one (.int .i64 k))], mkH [(2, ⟨0, 50, 1, 1, cAgr a⟩), (3, ⟨1, 50, 1, 1, cAgr a⟩)], nx, 0⟩) (a.length) ⟨0, _, by omega, by omega, rfl⟩ ?_
 rintro n0 st ⟨k, nx0, hk0, rfl, rfl⟩
 by_cases hlt0 : (k : Int) < (a.length : Int)
 ·
  refine awN ?_
  simp only [(id F83), seval, cAgr, hlt0]
  repeat refine ob ?_
  refine awT ?_
  refine awK ?_
  simp only [(id F83), seval]
  have hk2 : k < a.length := by omega
  have hat := flat_at cTier_len a k hk2
  rw [Nat.mul_one] at hat
  obtain ⟨t, ht⟩ : ∃ t, a[k] = t := ⟨_, rfl⟩
  rw [ht] at hat
  have hht := ha.2 t (ht ▸ List.getElem_mem hk2)
  refine awD (scT 0 13 .nil) [none, none, none, none, none, none, none, none, none, none, none, none, none] ?_
  simp only [(id F83), seval, cAgr, hlt0, hat, cTier, decide_true, Bool.not_true, BEq.rfl]
  repeat refine ob ?_
  refine awF ?_
  refine awK ?_
  simp only [(id F83), seval]
  refine awN ?_
  simp only [(id F83), seval, cAgr, hlt0]
  repeat refine ob ?_
  refine awp_keep [2, 3, 5, 6] [2, 3] ?_
  try unfold Later
  try simp only [(id F83), seval, cAgr, hlt0]
  repeat' first|apply awS|apply awB
  refine awp_loopw (fun n st => ∃ q nx, q ≤ t.length ∧ n = t.length - q ∧ st = ⟨mkT [(2, .val (.one (.ptr 2 0 0))), (3, .val (.one (.ptr 3 1 0))), (5, one (.int .i64 k)), (6, one (.int .i64 q))], mkH [(2, ⟨0, 50, 1, 1, cAgr a⟩), (3, ⟨1, 50, 1, 1, cAgr a⟩)], nx, 0⟩) (t.length) ⟨0, _, by omega, by omega, rfl⟩ ?_
  rintro n1 st ⟨q, nx1, hk1, rfl, rfl⟩
  by_cases hlt1 : (q : Int) < (t.length : Int)
  ·
   refine awN ?_
   simp only [(id F83), seval, cAgr, hlt0, hlt1, hat, cTier]
   repeat refine ob ?_
   refine awT ?_
   refine awK ?_
   simp only [(id F83), seval]
   have hq2 : q < t.length := by omega
   have hatq := flat_at cPart_len t q hq2
   refine awD (scT 0 16 (scq [32, 35] .nil)) [none, none, none, none, none, none, none, none, none, none, none, none, none, none, none, none, none, none] ?_
   simp only [(id F83), seval, cAgr, hlt0, hlt1, hat, cTier, hatq, cPart, decide_true, Bool.not_true, BEq.rfl]
   repeat refine ob ?_
   refine ⟨_, (samePart_yes t[q]), rfl, ?_⟩
   try unfold Later
   try simp only [(id F83), seval, cAgr, hlt0, hlt1, hat, cTier, hatq, cPart, decide_true, Bool.not_true, BEq.rfl]
   repeat refine ob ?_
   refine awF ?_
   refine awK ?_
   simp only [(id F83), seval]
   refine awN ?_
   simp only [(id F83), seval, cAgr, hlt0, hlt1]
   repeat refine ob ?_
   repeat refine ob ?_
   refine ⟨_, wk_keep [2, 3, 5, 6] [2, 3], t.length - (q + 1), by omega, q + 1, ?na10, by omega, rfl, ?st10⟩
   case st10 => (simp only [(id F83), seval]; first | rfl | (simp; done))
  refine awN ?_
  simp only [(id F83), seval, cAgr, hlt0, hlt1, hat, cTier]
  repeat refine ob ?_
  refine awF ?_
  refine awQ ?_
  simp only [(id F83), seval]
  refine awN ?_
  simp only [(id F83), seval, cAgr, hlt0, hlt1]
  repeat refine ob ?_
  repeat refine ob ?_
  refine ⟨_, wk_keep [2, 3, 5] [2, 3], a.length - (k + 1), by omega, k + 1, ?na13, by omega, rfl, ?st13⟩
  case st13 => (simp only [(id F83), seval]; first | rfl | (simp; done))
 refine awN ?_
 simp only [(id F83), seval, cAgr, hlt0]
 repeat refine ob ?_
 refine awF ?_
 refine awQ ?_
 simp only [(id F83), seval]
 refine awN ?_
 simp only [(id F83), seval, cAgr, hlt0]
 repeat refine ob ?_
 refine awX ?_
 (first | (simp only [(id F83), seval, cAgr, hlt0]; done) | (simp only [(id F83), seval, cAgr]; first | (simp [hlt0]; done)))
def F84 := And.intro zS (And.intro tf20 (And.intro tf21 (And.intro tf23 (And.intro tf24 (And.intro tf28 (And.intro tf29 (And.intro tf30 (And.intro tf31 (And.intro tf32 (And.intro tf33 (And.intro tf34 (tf18))))))))))))
set_option maxRecDepth 100000 in
set_option maxHeartbeats 4000000 in
theorem sameEst_yes (e : GEst) (he : e.claims.length ≤ 1000000000000 ∧ e.agrs.length ≤ 1000000000000 ∧ ∀ a ∈ e.agrs, a.length ≤ 1000000000000 ∧ ∀ t ∈ a, t.length ≤ 1000000000000) : ACall Tryz.prog 68 [.agg (cEst e), .agg (cEst e)] (one (.bool true)) := by
 have he1 := he.1
 have he2 := he.2.1
 refine acall_of Tryz.func68 rfl (by decide) (N := 67) rfl (by simp) (R := [.tmp 4]) rfl fun en k0 => ?_
 refine awN ?_
 simp only [(id F84), seval, cEst]
 repeat refine ob ?_
 have hq := EqK_rat e.cash
 have hqv := eqK_rat e.cash
 refine awR [] [none, none, none, none, none, none, some (12, false), some (12, false), some (12, false), some (12, false), some (12, false), some (12, false), some (12, false), none, none, some (21, false), some (21, false), some (21, false), some (21, false), some (21, false), some (21, false), some (21, false), none] ?_
 simp only [(id F84), seval, cEst, hqv, decide_true, Bool.not_true, BEq.rfl]
 repeat refine ob ?_
 try refine ⟨hq, ?_⟩
 repeat refine ob ?_
 refine awF ?_
 refine awK ?_
 simp only [(id F84), seval]
 refine awN ?_
 simp only [(id F84), seval, cEst]
 repeat refine ob ?_
 refine awp_keep [2, 3, 5] [2, 3] ?_
 try unfold Later
 try simp only [(id F84), seval, cEst]
 repeat' first|apply awS|apply awB
 refine awp_loopw (fun n st => ∃ k nx, k ≤ e.claims.length ∧ n = e.claims.length - k ∧ st = ⟨mkT [(2, .val (.one (.ptr 2 0 0))), (3, .val (.one (.ptr 3 1 0))), (5, one (.int .i64 k))], mkH [(2, ⟨0, 36, 5, 1, cEst e⟩), (3, ⟨1, 36, 5, 1, cEst e⟩)], nx, 0⟩) (e.claims.length) ⟨0, _, by omega, by omega, rfl⟩ ?_
 rintro n0 st ⟨k, nx0, hk0, rfl, rfl⟩
 by_cases hlt0 : (k : Int) < (e.claims.length : Int)
 ·
  refine awN ?_
  simp only [(id F84), seval, cEst, hlt0]
  repeat refine ob ?_
  refine awT ?_
  refine awK ?_
  simp only [(id F84), seval]
  have hk2 : k < e.claims.length := by omega
  have hat := flat_at cClaim_len e.claims k hk2
  have hq := EqK_claim e.claims[k]
  have hqv := eqK_claim e.claims[k]
  refine awD (scT 0 11 .nil) [none, none, none, none, none, none, none, none, none, none, none] ?_
  simp only [(id F84), seval, cEst, hlt0, hat, cClaim, hqv, decide_true, Bool.not_true, BEq.rfl]
  repeat refine ob ?_
  try refine ⟨hq, ?_⟩
  repeat refine ob ?_
  refine awF ?_
  refine awK ?_
  simp only [(id F84), seval]
  refine awN ?_
  simp only [(id F84), seval, cEst, hlt0]
  repeat refine ob ?_
  repeat refine ob ?_
  refine ⟨_, wk_keep [2, 3, 5] [2, 3], e.claims.length - (k + 1), by omega, k + 1, ?na7, by omega, rfl, ?st7⟩
  case st7 => (simp only [(id F84), seval]; first | rfl | (simp; done))
 refine awN ?_
 simp only [(id F84), seval, cEst, hlt0]
 repeat refine ob ?_
 refine awF ?_
 refine awQ ?_
 simp only [(id F84), seval]
 refine awN ?_
 simp only [(id F84), seval, cEst, hlt0]
 repeat refine ob ?_
 refine awp_keep [2, 3, 6] [2, 3] ?_
 try unfold Later
 try simp only [(id F84), seval, cEst, hlt0]
 repeat' first|apply awS|apply awB
 refine awp_loopw (fun n st => ∃ q nx, q ≤ e.agrs.length ∧ n = e.agrs.length - q ∧ st = ⟨mkT [(2, .val (.one (.ptr 2 0 0))), (3, .val (.one (.ptr 3 1 0))), (6, one (.int .i64 q))], mkH [(2, ⟨0, 36, 5, 1, cEst e⟩), (3, ⟨1, 36, 5, 1, cEst e⟩)], nx, 0⟩) (e.agrs.length) ⟨0, _, by omega, by omega, rfl⟩ ?_
 rintro n1 st ⟨q, nx1, hk1, rfl, rfl⟩
 by_cases hlt1 : (q : Int) < (e.agrs.length : Int)
 ·
  refine awN ?_
  simp only [(id F84), seval, cEst, hlt0, hlt1]
  repeat refine ob ?_
  refine awT ?_
  refine awK ?_
  simp only [(id F84), seval]
  have hq2 : q < e.agrs.length := by omega
  have hatq := flat_at cAgr_len e.agrs q hq2
  rw [Nat.mul_one] at hatq
  have hX := sameAgr_yes e.agrs[q] (he.2.2 _ (List.getElem_mem hq2))
  refine awD (scT 0 10 (scq [20, 23] .nil)) [none, none, none, none, none, none, none, none, none, none, none, none] ?_
  simp only [(id F84), seval, cEst, hlt0, hlt1, hatq, cAgr, flat_pure cTier_pure, decide_true, Bool.not_true, BEq.rfl]
  repeat refine ob ?_
  refine ⟨_, hX, rfl, ?_⟩
  try unfold Later
  try simp only [(id F84), seval, cEst, hlt0, hlt1, hatq, cAgr, flat_pure cTier_pure, decide_true, Bool.not_true, BEq.rfl]
  repeat refine ob ?_
  refine awF ?_
  refine awK ?_
  simp only [(id F84), seval]
  refine awN ?_
  simp only [(id F84), seval, cEst, hlt0, hlt1]
  repeat refine ob ?_
  repeat refine ob ?_
  refine ⟨_, wk_keep [2, 3, 6] [2, 3], e.agrs.length - (q + 1), by omega, q + 1, ?na13, by omega, rfl, ?st13⟩
  case st13 => (simp only [(id F84), seval]; first | rfl | (simp; done))
 refine awN ?_
 simp only [(id F84), seval, cEst, hlt0, hlt1]
 repeat refine ob ?_
 refine awF ?_
 refine awQ ?_
 simp only [(id F84), seval]
 refine awN ?_
 simp only [(id F84), seval, cEst, hlt0, hlt1]
 repeat refine ob ?_
 refine awX ?_
 (first | (simp only [(id F84), seval, cEst, hlt0, hlt1]; done) | (simp only [(id F84), seval, cEst]; first | (simp [hlt0, hlt1]; done)))
def sgE (e : GEst) : Prop := e.claims.length ≤ 1000000000000 ∧ e.agrs.length ≤ 1000000000000 ∧ ∀ a ∈ e.agrs, a.length ≤ 1000000000000 ∧ ∀ t ∈ a, t.length ≤ 1000000000000
def sgG (g : GGrp) : Prop := g.ests.length ≤ 1000000000000 ∧ (∀ e ∈ g.ests, sgE e) ∧ g.debts.length ≤ 1000000000000 ∧ ∀ d ∈ g.debts, d.legs.length ≤ 1000000000000
def F85 := And.intro zS (And.intro tf90 (And.intro tf109 (And.intro tf92 (And.intro tf110 (And.intro tf131 (And.intro tf94 (And.intro tf111 (And.intro tf95 (And.intro tf98 (And.intro tf112 (And.intro tf99 (And.intro tf75 (tf18)))))))))))))
set_option maxRecDepth 100000 in
set_option maxHeartbeats 4000000 in
theorem SameGroup_yes (g : GGrp) (hg : sgG g) : ACall Tryz.prog 23 [.agg (cGrp g), .agg (cGrp g)] (one (.bool true)) := by
 have hg1 := hg.1
 have hg2 := hg.2.2.1
 refine acall_of Tryz.func23 rfl (by decide) (N := 78) rfl (by simp) (R := [.tmp 4]) rfl fun en k0 => ?_
 refine awN ?_
 simp only [(id F85), seval, cGrp]
 repeat refine ob ?_
 refine awR [] [none, none, none, none, none, none, none, none, some (14, false), some (14, false), some (14, false), some (14, false), some (14, false), some (14, false), some (14, false), none] ?_
 simp only [(id F85), seval, cGrp, decide_true, Bool.not_true, BEq.rfl]
 repeat refine ob ?_
 refine awF ?_
 refine awK ?_
 simp only [(id F85), seval]
 refine awN ?_
 simp only [(id F85), seval, cGrp]
 repeat refine ob ?_
 refine awp_keep [2, 3, 5] [2, 3] ?_
 try unfold Later
 try simp only [(id F85), seval, cGrp]
 repeat' first|apply awS|apply awB
 refine awp_loopw (fun n st => ∃ k nx, k ≤ g.ests.length ∧ n = g.ests.length - k ∧ st = ⟨mkT [(2, .val (.one (.ptr 2 0 0))), (3, .val (.one (.ptr 3 1 0))), (5, one (.int .i64 k))], mkH [(2, ⟨0, 28, 2, 1, cGrp g⟩), (3, ⟨1, 28, 2, 1, cGrp g⟩)], nx, 0⟩) (g.ests.length) ⟨0, _, by omega, by omega, rfl⟩ ?_
 rintro n0 st ⟨k, nx0, hk0, rfl, rfl⟩
 by_cases hlt0 : (k : Int) < (g.ests.length : Int)
 ·
  refine awN ?_
  simp only [(id F85), seval, cGrp, hlt0]
  repeat refine ob ?_
  refine awT ?_
  refine awK ?_
  simp only [(id F85), seval]
  have hk2 : k < g.ests.length := by omega
  have hat := flat_at cEst_len g.ests k hk2
  have hX := sameEst_yes g.ests[k] (hg.2.1 _ (List.getElem_mem hk2))
  refine awD (scT 0 10 (scq [20, 23] .nil)) [none, none, none, none, none, none, none, none, none, none, none, none] ?_
  simp only [(id F85), seval, cGrp, hlt0, hat, cEst, flat_pure cClaim_pure, flat_pure cAgr_pure, decide_true, Bool.not_true, BEq.rfl]
  repeat refine ob ?_
  refine ⟨_, hX, (by first | rfl | simp [allA, pure1, pureCs, pureC, A1.cells, flat_pure cClaim_pure, flat_pure cAgr_pure]), ?_⟩
  try unfold Later
  try simp only [(id F85), seval, cGrp, hlt0, hat, cEst, flat_pure cClaim_pure, flat_pure cAgr_pure, decide_true, Bool.not_true, BEq.rfl]
  repeat refine ob ?_
  refine awF ?_
  refine awK ?_
  simp only [(id F85), seval]
  refine awN ?_
  simp only [(id F85), seval, cGrp, hlt0]
  repeat refine ob ?_
  repeat refine ob ?_
  refine ⟨_, wk_keep [2, 3, 5] [2, 3], g.ests.length - (k + 1), by omega, k + 1, ?na7, by omega, rfl, ?st7⟩
  case st7 => (simp only [(id F85), seval]; first | rfl | (simp; done))
 refine awN ?_
 simp only [(id F85), seval, cGrp, hlt0]
 repeat refine ob ?_
 refine awF ?_
 refine awQ ?_
 simp only [(id F85), seval]
 refine awN ?_
 simp only [(id F85), seval, cGrp, hlt0]
 repeat refine ob ?_
 refine awp_keep [2, 3, 6] [2, 3] ?_
 try unfold Later
 try simp only [(id F85), seval, cGrp, hlt0]
 repeat' first|apply awS|apply awB
 refine awp_loopw (fun n st => ∃ q nx, q ≤ g.debts.length ∧ n = g.debts.length - q ∧ st = ⟨mkT [(2, .val (.one (.ptr 2 0 0))), (3, .val (.one (.ptr 3 1 0))), (6, one (.int .i64 q))], mkH [(2, ⟨0, 28, 2, 1, cGrp g⟩), (3, ⟨1, 28, 2, 1, cGrp g⟩)], nx, 0⟩) (g.debts.length) ⟨0, _, by omega, by omega, rfl⟩ ?_
 rintro n1 st ⟨q, nx1, hk1, rfl, rfl⟩
 by_cases hlt1 : (q : Int) < (g.debts.length : Int)
 ·
  refine awN ?_
  simp only [(id F85), seval, cGrp, hlt0, hlt1]
  repeat refine ob ?_
  refine awT ?_
  refine awK ?_
  simp only [(id F85), seval]
  have hq2 : q < g.debts.length := by omega
  have hatq := flat_at cDebt_len g.debts q hq2
  have hq := EqK_rat g.debts[q].whole
  have hqv := eqK_rat g.debts[q].whole
  have hX := SameLegs_yes g.debts[q].legs (hg.2.2.2 _ (List.getElem_mem hq2))
  refine awD (scT 0 26 (scq [52, 55, 57] .nil)) [none, none, none, none, none, none, none, none, none, none, none, none, none, none, some (62, false), some (62, false), some (62, false), some (62, false), some (62, false), some (62, false), some (62, false), some (62, false), some (62, false), some (62, false), some (62, false), some (62, false), some (62, false), some (62, false), none] ?_
  simp only [(id F85), seval, cGrp, hlt0, hlt1, hatq, cDebt, hqv, flat_pure cLeg_pure, decide_true, Bool.not_true, BEq.rfl]
  repeat refine ob ?_
  try refine ⟨hq, ?_⟩
  repeat refine ob ?_
  refine ⟨_, hX, (by first | rfl | simp [allA, pure1, pureCs, pureC, A1.cells, flat_pure cLeg_pure]), ?_⟩
  try unfold Later
  try simp only [(id F85), seval, hqv, hatq, cDebt]
  repeat refine ob ?_
  refine awF ?_
  refine awK ?_
  simp only [(id F85), seval]
  refine awN ?_
  simp only [(id F85), seval, cGrp, hlt0, hlt1]
  repeat refine ob ?_
  repeat refine ob ?_
  refine ⟨_, wk_keep [2, 3, 6] [2, 3], g.debts.length - (q + 1), by omega, q + 1, ?na13, by omega, rfl, ?st13⟩
  case st13 => (simp only [(id F85), seval]; first | rfl | (simp; done))
 refine awN ?_
 simp only [(id F85), seval, cGrp, hlt0, hlt1]
 repeat refine ob ?_
 refine awF ?_
 refine awQ ?_
 simp only [(id F85), seval]
 refine awN ?_
 simp only [(id F85), seval, cGrp, hlt0, hlt1]
 repeat refine ob ?_
 refine awX ?_
 (first | (simp only [(id F85), seval, cGrp, hlt0, hlt1]; done) | (simp only [(id F85), seval, cGrp]; first | (simp [hlt0, hlt1]; done)))
end Go.Proofs.YtokmkopihhnggaaGreatDoor
