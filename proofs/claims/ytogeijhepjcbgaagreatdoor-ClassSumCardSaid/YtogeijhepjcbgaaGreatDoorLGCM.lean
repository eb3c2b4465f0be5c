/- GuaranteeCheck: the law's own function; walked by the abstract machine. -/
import Derived.Test.YtogeijhepjcbgaaGreatDoorFewM
import Derived.Test.YtogeijhepjcbgaaGreatDoorAw29M
import Derived.Test.YtogeijhepjcbgaaGreatDoorLawM
import Derived.Test.YtogeijhepjcbgaaGreatDoorCs3M
set_option linter.unusedVariables false
set_option linter.unusedSimpArgs false
set_option linter.defProp false
set_option linter.unnecessarySimpa false
section
/- GuaranteeCheck: the law's own function; walked by the abstract machine. -/
namespace Go.Proofs.YtogeijhepjcbgaaGreatDoor
open Go Go.RowKit
theorem acall_law {P : Program} {f : FuncId} {args : List A1} {vs : List Value} {w : World} (h : ACall P f args (one (.bool true))) (hd : den1s (kAll w) vs args) :
    Calls P f vs.toArray w fun e w' => e = .returned (.bool true) ∧ Below w.heap.size w w' :=
  (h.2 w (LT w.heap.size) vs (fun _ h => h) hd).mono fun e w' ⟨v, he, hb, hv⟩ => by
    have : v = .bool true := hv.1
    subst this
    exact ⟨he, hb⟩
theorem den_agg {α : Type} {enc : α → List C} {ok : α → Prop} {W : World} {v : Value} {a : α} (o : ∃ cs : Array Value, v = .agg cs ∧ rC enc ok W (LT W.heap.size) cs.toList a) : den1 (kAll W) v (.agg (enc a)) ∧ ok a := by
  obtain ⟨cs, rfl, h, k⟩ := o
  exact ⟨⟨cs.toList, by simp, h⟩, k⟩
theorem den_oneC {α : Type} {enc : α → List C} {ok : α → Prop} {W : World} {v : Value} {a : α} {c : C} (o : rC enc ok W (LT W.heap.size) [v] a) (he : enc a = [c]) : den1 (kAll W) v (.one c) ∧ ok a := by
  obtain ⟨h, k⟩ := o
  rw [he] at h
  exact ⟨h.1, k⟩
end Go.Proofs.YtogeijhepjcbgaaGreatDoor
end
section
/- Classes as arguments of a law, opened; ClassSum's own function. -/
namespace Go.Proofs.YtogeijhepjcbgaaGreatDoor
open Go Go.RowKit Go.ChangeShapes Go.WideShapes Go.ChangeAt
def cU8 (n : Nat) : List C := [.lit (.int .u8 n)]
theorem cU8_len (n : Nat) : (cU8 n).length = 1 := rfl
theorem opensC_U8 : Opens Tryz.prog 5 (rC cU8 (· < 256)) := opensC_u8
theorem Tryz.cellsU8 : Tryz.prog.cellsOf 5 = 1 := by kernel_rfl
theorem opensC_u8s : Opens Tryz.prog 94 (rC (cSl 1 cU8) (okSl (· < 256))) := opens_sl Tryz.underlying94 Tryz.cellsU8 (by decide) cU8_len opensC_U8
theorem Tryz.cellsCInts : Tryz.prog.cellsOf 72 = 1 := by kernel_rfl
theorem opensC_Ints : Opens Tryz.prog 72 (rC (cSl 1 cI) (okSl i64ok)) := opens_sl Tryz.underlying72 Tryz.cellsIntC (by decide) cI_len opensC_int
theorem Tryz.cellsCCls : Tryz.prog.cellsOf 74 = 4 := by kernel_rfl
def okCls (x : GCls) : Prop := i64ok x.est ∧ i64ok x.rank ∧ True ∧ okSl i64ok x.claims
set_option maxRecDepth 100000 in
theorem opensC_Cls : Opens Tryz.prog 74 (rC cCls okCls) := by
  refine opens_fields Tryz.underlying74 fun H enc W n cs hl hf => ?_
  rw [Tryz.cellsCCls] at hl
  match cs, hl with
  | [c0, c1, c2, c3], _ =>
    obtain ⟨x0, h0⟩ := hf 0 _ 1 rfl Tryz.cellsIntC
    obtain ⟨a0, k0, o0⟩ := opensC_int H enc W _ _ _ h0
    replace k0 : denVs (kAll W) [c0] _ := k0
    obtain ⟨x1, h1⟩ := hf 1 _ 1 rfl Tryz.cellsIntC
    obtain ⟨a1, k1, o1⟩ := opensC_int H enc W _ _ _ h1
    replace k1 : denVs (kAll W) [c1] _ := k1
    obtain ⟨x2, h2⟩ := hf 2 _ 1 rfl Tryz.cellsBool
    obtain ⟨a2, k2, o2⟩ := opensC_boolT H enc W _ _ _ h2
    replace k2 : denVs (kAll W) [c2] _ := k2
    obtain ⟨x3, h3⟩ := hf 3 _ 1 rfl Tryz.cellsCInts
    obtain ⟨a3, k3, o3⟩ := opensC_Ints H enc W _ _ _ h3
    replace k3 : denVs (kAll W) [c3] _ := k3
    exact ⟨⟨a0, a1, a2, a3⟩, (denVs.append k0 (denVs.append k1 (denVs.append k2 k3))), o0, o1, o2, o3⟩
def clM : List Nat → List Int → List Int
  | [], out => out
  | x :: l, out => clM l (out ++ [((x % 6 : Nat) : Int)])
def okAm (e : GEst) : Prop := ∀ c ∈ e.claims, sB 1 c.amount
theorem grpE_am (n : Nat) (cash : List Nat) (list : List N4) (pools : List N3) : ∀ e ∈ grpE n cash list pools, okAm e := by
  have hz : okAm ztEst := by simp [okAm, ztEst]
  refine foldl_ok _ (fun es p h => ?_) _ _ (foldl_ok _ (fun es x h => ?_) _ _ fun e he => ?_)
  · unfold addAg
    split
    · exact set_ok h _ (getD_ok h hz (p.a % (1 + n % 4)))
    · exact h
  · unfold addClaim
    split
    · exact h
    · have h0 := getD_ok h hz (x.a % (1 + n % 4))
      generalize es.getD (x.a % (1 + n % 4)) ztEst = e at *
      refine set_ok h _ fun c hc => ?_
      rcases List.mem_append.1 hc with h1 | h1
      · exact h0 c h1
      · obtain rfl : c = mkClaim (1 + n % 4) x := by simpa using h1
        exact sB_enc (amt_qB _)
  · obtain ⟨i, _, rfl⟩ := List.mem_map.1 he
    simp [okAm, mkEst]
def F_lCSm := And.intro tf103 (And.intro tf17 (And.intro tf7 (And.intro tf104 (And.intro tf62 (And.intro tf20 (And.intro tf24 (And.intro tf63 (And.intro tf64 (And.intro tf30 (And.intro tf32 (And.intro tf105 (And.intro tf65 (And.intro tf4 (And.intro tf98 (And.intro tf67 (And.intro tf101 (And.intro tf61 (tf13))))))))))))))))))
set_option maxRecDepth 100000 in
set_option maxHeartbeats 4000000 in
theorem lCSm_A (n : Nat) (cash : List Nat) (list : List N4) (c : GCls) (est : Nat) (cl : List Nat) (hn : n < 256) (hcs : okSl (· < 65536) cash) (hls : okSl okN4 list) (hc : okCls c) (hes : est < 256) (hcl : okSl (· < 256) cl) : ACall Tryz.prog 11 [.one (.lit (.int .u8 n)), .one (.sh 1 cash.length (flat cU16 cash)), .one (.sh 4 list.length (flat cN4 list)), .agg (cCls c), .one (.lit (.int .u8 est)), .one (.sh 1 cl.length (flat cU8 cl))] (one (.bool true)) := by
 have hc1 : cash.length ≤ 9223372036854775807 := Nat.le_trans hcs.1 (by decide)
 have hl1 : list.length ≤ 9223372036854775807 := Nat.le_trans hls.1 (by decide)
 have hcl1 := hcl.1
 unfold maxLen at hcl1
 have hcc := hc.2.2.2.1
 unfold maxLen at hcc
 refine acall_of Tryz.func11 rfl (by decide) (N := 107) rfl (by simp) (R := [.tmp 12]) rfl fun en k0 => ?_
 repeat' first|apply awS|apply awB
 refine awR [] [none, none] ?_
 simp only [(id F_lCSm), (id SS), seval, reduceIte, ne_eq, cGrp, cCls]
 repeat refine ob ?_
 by_cases h1 : (12 : Int) < (c.claims.length : Int)
 ·
  repeat' first|apply awS|apply awB
  refine awR [] [none, none, none, none, none, some (28, false), some (28, false), some (28, false), none] ?_
  simp only [(id F_lCSm), (id SS), seval, reduceIte, ne_eq, cGrp, h1, cCls]
  repeat refine ob ?_
  repeat' first|apply awS|apply awB
  refine awT ?_
  repeat' first|apply awS|apply awB
  refine awR [] [none, none] ?_
  simp only [(id F_lCSm), (id SS), seval, reduceIte, ne_eq, cGrp, h1]
  repeat refine ob ?_
  refine ⟨_, awake29_A, (by first | rfl | simp [allA, pure1, pureCs, pureC, A1.cells, cGrp, smR, flat_pure cEst_pure, flat_pure cDebt_pure]), ?_⟩
  try unfold Later
  try simp only [(id F_lCSm), (id SS), seval, reduceIte, ne_eq, cGrp, h1]
  repeat refine ob ?_
  repeat' first|apply awS|apply awB
  refine awp_ret ?_
  (first | (simp only [(id F_lCSm), (id SS), seval, reduceIte, ne_eq, cGrp, h1]; done) | (simp only [(id F_lCSm), (id SS), seval, reduceIte, ne_eq, cGrp]; first | (simp [h1]; done)))
 ·
  by_cases h2 : (12 : Int) < (cl.length : Int)
  ·
   repeat' first|apply awS|apply awB
   refine awR [] [none, none, none, none, none, some (28, false), some (28, false), some (28, false), none] ?_
   simp only [(id F_lCSm), (id SS), seval, reduceIte, ne_eq, cGrp, h1, h2, cCls]
   repeat refine ob ?_
   repeat' first|apply awS|apply awB
   refine awT ?_
   repeat' first|apply awS|apply awB
   refine awR [] [none, none] ?_
   simp only [(id F_lCSm), (id SS), seval, reduceIte, ne_eq, cGrp, h1, h2]
   repeat refine ob ?_
   refine ⟨_, awake29_A, (by first | rfl | simp [allA, pure1, pureCs, pureC, A1.cells, cGrp, smR, flat_pure cEst_pure, flat_pure cDebt_pure]), ?_⟩
   try unfold Later
   try simp only [(id F_lCSm), (id SS), seval, reduceIte, ne_eq, cGrp, h1, h2]
   repeat refine ob ?_
   repeat' first|apply awS|apply awB
   refine awp_ret ?_
   (first | (simp only [(id F_lCSm), (id SS), seval, reduceIte, ne_eq, cGrp, h1, h2]; done) | (simp only [(id F_lCSm), (id SS), seval, reduceIte, ne_eq, cGrp]; first | (simp [h1, h2]; done)))
  ·
   repeat' first|apply awS|apply awB
   refine awR [] [none, none, none, none, none, some (28, false), some (28, false), some (28, false), none] ?_
   simp only [(id F_lCSm), (id SS), seval, reduceIte, ne_eq, cGrp, h1, h2, cCls]
   repeat refine ob ?_
   repeat' first|apply awS|apply awB
   refine awF ?_
   refine awp_skip ?_
   simp only [(id F_lCSm), (id SS), seval, reduceIte, ne_eq]
   have hG := group_nil n cash list hn hcs.2 hls.2 hc1 hl1
   have hok := grpN_ok n cash list [] []
   have hel := grpE_len n cash list []
   have heb := grpE_okB n cash list []
   have ham := grpE_am n cash list []
   repeat' first|apply awS|apply awB
   refine awR [] [none, none, none, none, none, none] ?_
   simp only [(id F_lCSm), (id SS), seval, reduceIte, ne_eq, cGrp, h1, h2, flat_pure cU16_pure, flat_pure cN4_pure]
   repeat refine ob ?_
   refine ⟨_, hG, (by first | rfl | simp [allA, pure1, pureCs, pureC, A1.cells, cGrp, smR, flat_pure cEst_pure, flat_pure cDebt_pure]), ?_⟩
   try unfold Later
   try simp only [(id F_lCSm), (id SS), seval, reduceIte, ne_eq, cGrp, h1, h2, flat_pure cU16_pure, flat_pure cN4_pure]
   repeat refine ob ?_
   have hgl : (grpN n cash list [] []).ests.length = 1 + n % 4 := hel
   have hce : ∀ e ∈ (grpN n cash list [] []).ests, e.claims.length ≤ 1000000 ∧ ∀ c ∈ e.claims, sB 1 c.amount := fun e he => ⟨by have := (heb e he).1; omega, ham e he⟩
   generalize grpN n cash list [] [] = g at *
   have w1 := tmodN est g.ests.length
   obtain ⟨ei, hei⟩ : ∃ ei : Int, ei = ((est % g.ests.length : Nat) : Int) := ⟨_, rfl⟩
   have hgm := Nat.mod_lt est (show 0 < g.ests.length by omega)
   repeat' first|apply awS|apply awB
   refine awR [] [none, none, none, none, none, none, none, none, none] ?_
   simp only [(id F_lCSm), (id SS), seval, reduceIte, ne_eq, cGrp, h1, h2, w1, ← hei]
   repeat refine ob ?_
   repeat' first|apply awS|apply awB
   refine awR [] [none] ?_
   simp only [(id F_lCSm), (id SS), seval, reduceIte, ne_eq, cGrp, h1, h2]
   repeat refine ob ?_
   refine awp_nilc 14 3 60 _ 3 1 (by decide) (by rfl) (by decide) (by simp) (by rfl) ?_
   refine awp_keep [9, 13, 14, 5, 15] [9, 13, 14, 60] ?_
   try unfold Later
   try simp only [(id F_lCSm), (id SS), seval, reduceIte, ne_eq, cGrp, h1, h2, flat_snoc, cI, List.length_append, List.length_cons, List.length_nil]
   repeat' first|apply awS|apply awB
   refine awp_loopw (fun n st => ∃ i0 out s nx, i0 ≤ cl.length ∧ n = cl.length - i0 ∧ clM (cl.drop i0) out = clM cl [] ∧ out.length ≤ i0 ∧ st = ⟨mkT [(9, .val (.one (.ptr 9 0 0))), (13, .val (.one (.ptr 13 1 0))), (14, .val (.one (.ptr 14 2 0))), (5, .val (.one (.sh 1 cl.length (flat cU8 cl)))), (15, one (.int .i64 i0))], mkH [(9, ⟨0, 74, 4, 1, cCls c⟩), (13, ⟨1, 30, 2, 1, cGrp g⟩), (14, ⟨2, 74, 4, 1, [.lit (.int .i64 ei), .lit (.int .i64 0), .lit (.bool false), .own 60 s out.length 1]⟩), (60, ⟨s, 3, 1, out.length, flat cI out⟩)], nx, 0⟩) (cl.length) ⟨0, [], _, _, by omega, by omega, by rfl, (by first | omega | assumption | rfl | simp | (simp; omega)), rfl⟩ ?_
   rintro n0 st ⟨i0, out, s, nx0, hk0, rfl, hL0, hV0_1, rfl⟩
   by_cases hlt0 : i0 < cl.length
   ·
    have hI0 : (i0 : Int) < (cl.length : Int) := by omega
    have hat0 := flat_at cU8_len cl i0 hlt0
    try rw [Nat.mul_one] at hat0
    rw [List.drop_eq_getElem_cons hlt0] at hL0
    have hx8 := hcl.2 _ (List.getElem_mem hlt0)
    generalize cl[i0] = x at *
    simp only [clM] at hL0
    repeat' first|apply awS|apply awB
    refine awR [] [none, none, none, none] ?_
    simp only [(id F_lCSm), (id SS), seval, reduceIte, ne_eq, cGrp, h1, h2, hI0, hat0]
    repeat refine ob ?_
    repeat' first|apply awS|apply awB
    refine awT ?_
    refine awp_skip ?_
    simp only [(id F_lCSm), (id SS), seval, reduceIte, ne_eq]
    have w2 : ((x : Nat) : Int).tmod 6 = ((x % 6 : Nat) : Int) := by norm_cast
    have w3 : IntKind.u8.wrap ((x % 6 : Nat) : Int) = ((x % 6 : Nat) : Int) := by have : x % 6 < 6 := Nat.mod_lt _ (by decide); simp [IntKind.wrap, IntKind.bits, IntKind.signed]; omega
    repeat' first|apply awS|apply awB
    refine awD (sc [1, 3, 5, 7, 9, 11, 13, 15, 16, 18, 21, 22] .nil) [none, none, none, none, none, none, none, none, none, none, none, none] ?_
    simp only [(id F_lCSm), (id SS), seval, reduceIte, ne_eq, cGrp, h1, h2, hI0, hat0, w2, w3, cU8]
    repeat refine ob ?_
    repeat' first|apply awS|apply awB
    refine awR [] [none, none, none] ?_
    simp only [(id F_lCSm), (id SS), seval, reduceIte, ne_eq, cGrp, h1, h2, hI0, hat0]
    repeat refine ob ?_
    repeat refine ob ?_
    refine ⟨_, wk_keep [9, 13, 14, 5, 15] [9, 13, 14, 60], cl.length - (i0 + 1), by omega, i0 + 1, (out ++ [((x % 6 : Nat) : Int)]), ?a14_s, ?a14_nx, by omega, rfl, ?i14_0, ?i14_1, ?st14⟩
    case st14 => (simp only [(id F_lCSm), (id SS), seval, reduceIte, ne_eq, flat_snoc, cI, List.length_append, List.length_cons, List.length_nil, cGrp, h1, h2, hI0, hat0]; first | rfl | (simp [flat_snoc, cI, List.length_append, List.length_cons, List.length_nil, h1, h2, hI0, hat0, Nat.add_mul]; done))
    case i14_0 => (first | exact hL0 | (rw [← hL0]; simp only [reduceIte, h1, h2, hI0, hat0]; done) | (rw [← hL0]; simp [h1, h2, hI0, hat0]; done) | (simp [h1, h2, hI0, hat0] at hL0; simpa using hL0) | (rw [← hL0]; simp [*]; done))
    case i14_1 => (first | omega | assumption | (simp; omega) | (simp_all; done))
   ·
    obtain rfl : i0 = cl.length := by omega
    have hI0 : ¬ (cl.length : Int) < (cl.length : Int) := by omega
    rw [List.drop_length] at hL0
    simp only [clM] at hL0
    repeat' first|apply awS|apply awB
    refine awR [] [none, none, none, none] ?_
    simp only [(id F_lCSm), (id SS), seval, reduceIte, ne_eq, cGrp, h1, h2, hI0]
    repeat refine ob ?_
    repeat' first|apply awS|apply awB
    refine awF ?_
    refine awp_exit ?_
    simp only [(id F_lCSm), (id SS), seval, reduceIte, ne_eq]
    refine awp_pubc 60 14 3 (by rfl) (by rfl) (by rfl) (by decide) (by show (1 : Nat) ≠ 0; decide) (by show (4 : Nat) ≠ 0; decide) rfl ?_
    simp only [(id F_lCSm), (id SS), seval, reduceIte, ne_eq]
    have hgo := grpOK2_ok hok.1
    have hA := cSum_A g c hgo (by omega) (by omega) hce
    have hB := rSum_A g c hok.1 (by omega) (by omega) hce
    obtain ⟨d, hd⟩ : ∃ d : GCls, d = ⟨ei, 0, false, out⟩ := ⟨_, rfl⟩
    have hdl : d.claims.length ≤ 1000 := by rw [hd]; show out.length ≤ 1000; omega
    have hX := cSum_A g d hgo (by omega) hdl hce
    have hY := rSum_A g d hok.1 (by omega) hdl hce
    rw [← gc_cg] at hB hY
    rw [hd] at hX hY
    generalize smS (gcSpec g) g c = r1 at *
    generalize smS (gcSpec g) g ⟨ei, 0, false, out⟩ = r2 at *
    simp only [cCls] at hX hY
    repeat' first|apply awS|apply awB
    refine awR [] [none, none, none, none, none, none, none, none, none] ?_
    simp only [(id F_lCSm), (id SS), seval, reduceIte, ne_eq, cGrp, h1, h2, hI0, cCls, smR, cRat, flat_pure cEst_pure, flat_pure cDebt_pure, flat_pure cI_pure]
    repeat refine ob ?_
    refine ⟨_, hA, (by first | rfl | simp [allA, pure1, pureCs, pureC, A1.cells, cGrp, smR, flat_pure cEst_pure, flat_pure cDebt_pure]), ?_⟩
    try unfold Later
    try simp only [(id F_lCSm), (id SS), seval, reduceIte, ne_eq, cGrp, h1, h2, hI0, cCls, smR, cRat, flat_pure cEst_pure, flat_pure cDebt_pure, flat_pure cI_pure]
    repeat refine ob ?_
    repeat' first|apply awS|apply awB
    refine awR [] [none, none, none, none, none, none, none, none, none] ?_
    simp only [(id F_lCSm), (id SS), seval, reduceIte, ne_eq, cGrp, h1, h2, hI0, cCls, smR, cRat, flat_pure cEst_pure, flat_pure cDebt_pure, flat_pure cI_pure]
    repeat refine ob ?_
    refine ⟨_, hB, (by first | rfl | simp [allA, pure1, pureCs, pureC, A1.cells, cGrp, smR, flat_pure cEst_pure, flat_pure cDebt_pure]), ?_⟩
    try unfold Later
    try simp only [(id F_lCSm), (id SS), seval, reduceIte, ne_eq, cGrp, h1, h2, hI0, cCls, smR, cRat, flat_pure cEst_pure, flat_pure cDebt_pure, flat_pure cI_pure]
    repeat refine ob ?_
    repeat' first|apply awS|apply awB
    refine awR [] [none, none, none, none, none, none, none, none, none] ?_
    simp only [(id F_lCSm), (id SS), seval, reduceIte, ne_eq, cGrp, h1, h2, hI0, smR, cRat, flat_pure cEst_pure, flat_pure cDebt_pure, flat_pure cI_pure]
    repeat refine ob ?_
    refine ⟨_, hX, (by first | rfl | simp [allA, pure1, pureCs, pureC, A1.cells, cGrp, smR, flat_pure cEst_pure, flat_pure cDebt_pure]), ?_⟩
    try unfold Later
    try simp only [(id F_lCSm), (id SS), seval, reduceIte, ne_eq, cGrp, h1, h2, hI0, smR, cRat, flat_pure cEst_pure, flat_pure cDebt_pure, flat_pure cI_pure]
    repeat refine ob ?_
    repeat' first|apply awS|apply awB
    refine awR [] [none, none, none, none, none, none, none, none, none] ?_
    simp only [(id F_lCSm), (id SS), seval, reduceIte, ne_eq, cGrp, h1, h2, hI0, smR, cRat, flat_pure cEst_pure, flat_pure cDebt_pure, flat_pure cI_pure]
    repeat refine ob ?_
    refine ⟨_, hY, (by first | rfl | simp [allA, pure1, pureCs, pureC, A1.cells, cGrp, smR, flat_pure cEst_pure, flat_pure cDebt_pure]), ?_⟩
    try unfold Later
    try simp only [(id F_lCSm), (id SS), seval, reduceIte, ne_eq, cGrp, h1, h2, hI0, smR, cRat, flat_pure cEst_pure, flat_pure cDebt_pure, flat_pure cI_pure]
    repeat refine ob ?_
    have q1 := EqOK_rat (enc r1.2)
    have q2 := eqVs_rat (enc r1.2)
    have q3 := EqOK_rat (enc r2.2)
    have q4 := eqVs_rat (enc r2.2)
    repeat' first|apply awS|apply awB
    refine awR [] [none, none, some (87, true), some (87, true), some (87, true), none, none, some (92, true), some (92, true), some (92, true), none, none, some (97, true), some (97, true), some (97, true), none, none, some (102, true), some (102, true), some (102, true), none, none] ?_
    simp only [(id F_lCSm), (id SS), seval, reduceIte, ne_eq, cGrp, h1, h2, hI0, q2, q4, decide_true, BEq.rfl]
    repeat refine ob ?_
    refine ⟨_, awake29_A, rfl, ?_⟩
    try unfold Later
    try simp only [(id F_lCSm), (id SS), seval, reduceIte, ne_eq, cGrp, h1, h2, hI0, q2, q4, decide_true, BEq.rfl]
    try refine ⟨q1, ?_⟩
    try refine ⟨q3, ?_⟩
    repeat refine ob ?_
    try refine ⟨q3, ?_⟩
    repeat refine ob ?_
    repeat' first|apply awS|apply awB
    refine awp_ret ?_
    (first | (simp only [(id F_lCSm), (id SS), seval, reduceIte, ne_eq, cGrp, h1, h2, hI0, ← hL0]; done) | (simp only [(id F_lCSm), (id SS), seval, reduceIte, ne_eq, cGrp]; first | (simp [h1, h2, hI0, ← hL0]; done) | (simp [h1, h2, hI0]; done) | (rw [← hL0]; simp [h1, h2, hI0]; done)))
theorem lCSm_walk (v0 v1 v2 v3 v4 v5 : Value) (n : Nat) (cash : List Nat) (list : List N4) (c : GCls) (est : Nat) (cl : List Nat) (W : World) (o0 : rC (fun n : Nat => [.lit (.int .u8 n)]) (· < 256) W (LT W.heap.size) [v0] n) (o1 : rC (cSl 1 cU16) (okSl (· < 65536)) W (LT W.heap.size) [v1] cash) (o2 : rC (cSl 4 cN4) (okSl okN4) W (LT W.heap.size) [v2] list) (o3 : ∃ cs : Array Value, v3 = .agg cs ∧ rC cCls okCls W (LT W.heap.size) cs.toList c) (o4 : rC (fun n : Nat => [.lit (.int .u8 n)]) (· < 256) W (LT W.heap.size) [v4] est) (o5 : rC (cSl 1 cU8) (okSl (· < 256)) W (LT W.heap.size) [v5] cl) :
    Calls Tryz.prog 11 #[v0, v1, v2, v3, v4, v5] W fun e w' => e = .returned (.bool true) ∧ Below W.heap.size W w' := by
  obtain ⟨h0, k0⟩ := den_oneC o0 rfl
  obtain ⟨h1, k1⟩ := den_oneC o1 rfl
  obtain ⟨h2, k2⟩ := den_oneC o2 rfl
  obtain ⟨h3, k3⟩ := den_agg o3
  obtain ⟨h4, k4⟩ := den_oneC o4 rfl
  obtain ⟨h5, k5⟩ := den_oneC o5 rfl
  exact acall_law (vs := [v0, v1, v2, v3, v4, v5]) (lCSm_A n cash list c est cl k0 k1 k2 k3 k4 k5) ⟨h0, h1, h2, h3, h4, h5, trivial⟩
end Go.Proofs.YtogeijhepjcbgaaGreatDoor
end
