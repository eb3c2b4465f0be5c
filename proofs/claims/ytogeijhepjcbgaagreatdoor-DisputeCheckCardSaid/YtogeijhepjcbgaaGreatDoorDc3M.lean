/- Arguments of the laws about disputes, opened; few; awake; DisputeCheck's own function. -/
import Derived.Test.YtogeijhepjcbgaaGreatDoorDc2M
import Derived.Test.YtogeijhepjcbgaaGreatDoorBl6M
import Derived.Test.YtogeijhepjcbgaaGreatDoorCountM
set_option linter.unusedVariables false
set_option linter.unusedSimpArgs false
set_option linter.defProp false
set_option linter.unnecessarySimpa false
/- Arguments of the laws about disputes, opened; few; awake; DisputeCheck's own function. -/
namespace Go.Proofs.YtogeijhepjcbgaaGreatDoor
open Go Go.RowKit Go.ChangeShapes Go.WideShapes Go.ChangeAt
theorem opensC_u8 : Opens Tryz.prog 5 (rC (fun n : Nat => [.lit (.int .u8 n)]) (· < 256)) := by
  intro H enc W fuel cs x h
  obtain ⟨n, rfl, hn⟩ := opens_u8 Tryz.underlying5 H enc W fuel cs x h
  exact ⟨n, ⟨⟨rfl, rfl⟩, trivial⟩, hn⟩
theorem opensC_u16 : Opens Tryz.prog 53 (rC cU16 (· < 65536)) := by
  intro H enc W fuel cs x h
  obtain ⟨n, rfl, hn⟩ := opens_u16 Tryz.underlying53 H enc W fuel cs x h
  exact ⟨n, ⟨⟨rfl, rfl⟩, trivial⟩, hn⟩
theorem Tryz.cellsU16 : Tryz.prog.cellsOf 53 = 1 := by kernel_rfl
theorem Tryz.cellsN4 : Tryz.prog.cellsOf 106 = 4 := by kernel_rfl
theorem opensC_u16s : Opens Tryz.prog 22 (rC (cSl 1 cU16) (okSl (· < 65536))) := opens_sl Tryz.underlying22 Tryz.cellsU16 (by decide) cU16_len opensC_u16
def okN4 (x : N4) : Prop := x.a < 65536 ∧ x.b < 65536 ∧ x.c < 65536 ∧ x.d < 65536
theorem opensC_N4 : Opens Tryz.prog 106 (rC cN4 okN4) := by
  intro H enc W fuel cs x h
  obtain ⟨xs, m, _, _, hl, hxs, hf⟩ := DataW.trod_array Tryz.underlying106 h
  rw [Tryz.cellsN4] at hl
  simp only [Tryz.cellsU16] at hf
  match cs, hl with
  | [c0, c1, c2, c3], _ =>
    have h0 := hf 0 (by decide); rw [List.getElem?_eq_getElem (by omega)] at h0
    have h1 := hf 1 (by decide); rw [List.getElem?_eq_getElem (by omega)] at h1
    have h2 := hf 2 (by decide); rw [List.getElem?_eq_getElem (by omega)] at h2
    have h3 := hf 3 (by decide); rw [List.getElem?_eq_getElem (by omega)] at h3
    obtain ⟨a0, k0, o0⟩ := opensC_u16 H enc W _ _ _ h0
    obtain ⟨a1, k1, o1⟩ := opensC_u16 H enc W _ _ _ h1
    obtain ⟨a2, k2, o2⟩ := opensC_u16 H enc W _ _ _ h2
    obtain ⟨a3, k3, o3⟩ := opensC_u16 H enc W _ _ _ h3
    replace k0 : denVs (kAll W) [c0] _ := k0
    replace k1 : denVs (kAll W) [c1] _ := k1
    replace k2 : denVs (kAll W) [c2] _ := k2
    replace k3 : denVs (kAll W) [c3] _ := k3
    exact ⟨⟨a0, a1, a2, a3⟩, denVs.append k0 (denVs.append k1 (denVs.append k2 k3)), o0, o1, o2, o3⟩
theorem opensC_N4s : Opens Tryz.prog 23 (rC (cSl 4 cN4) (okSl okN4)) := opens_sl Tryz.underlying23 Tryz.cellsN4 (by decide) cN4_len opensC_N4
theorem Tryz.cellsCOpt : Tryz.prog.cellsOf 46 = 4 := by kernel_rfl
def okOpt (x : GOpt) : Prop := okRat x.amount ∧ i64ok x.rank
set_option maxRecDepth 100000 in
theorem opensC_Opt : Opens Tryz.prog 46 (rC cOpt okOpt) := by
  refine opens_fields Tryz.underlying46 fun H enc W n cs hl hf => ?_
  rw [Tryz.cellsCOpt] at hl
  match cs, hl with
  | [c0, c1, c2, c3], _ =>
    obtain ⟨x0, h0⟩ := hf 0 _ 3 rfl Tryz.cellsRat
    obtain ⟨a0, k0, o0⟩ := opensC_rat H enc W _ _ _ h0
    replace k0 : denVs (kAll W) [c0, c1, c2] _ := k0
    obtain ⟨x1, h1⟩ := hf 1 _ 1 rfl Tryz.cellsIntC
    obtain ⟨a1, k1, o1⟩ := opensC_int H enc W _ _ _ h1
    replace k1 : denVs (kAll W) [c3] _ := k1
    exact ⟨⟨a0, a1⟩, (denVs.append k0 k1), o0, o1⟩
theorem Tryz.cellsCOpts : Tryz.prog.cellsOf 40 = 1 := by kernel_rfl
theorem opensC_Opts : Opens Tryz.prog 40 (rC (cSl 4 cOpt) (okSl okOpt)) := opens_sl Tryz.underlying40 Tryz.cellsCOpt (by decide) cOpt_len opensC_Opt
theorem Tryz.cellsCDisp : Tryz.prog.cellsOf 42 = 3 := by kernel_rfl
def okDisp (x : GDisp) : Prop := (i64ok x.est ∧ i64ok x.cl) ∧ okSl okOpt x.opts
set_option maxRecDepth 100000 in
theorem opensC_Disp : Opens Tryz.prog 42 (rC cDisp okDisp) := by
  refine opens_fields Tryz.underlying42 fun H enc W n cs hl hf => ?_
  rw [Tryz.cellsCDisp] at hl
  match cs, hl with
  | [c0, c1, c2], _ =>
    obtain ⟨x0, h0⟩ := hf 0 _ 2 rfl Tryz.cellsCLeg
    obtain ⟨a0, k0, o0⟩ := opensC_Leg H enc W _ _ _ h0
    replace k0 : denVs (kAll W) [c0, c1] _ := k0
    obtain ⟨x1, h1⟩ := hf 1 _ 1 rfl Tryz.cellsCOpts
    obtain ⟨a1, k1, o1⟩ := opensC_Opts H enc W _ _ _ h1
    replace k1 : denVs (kAll W) [c2] _ := k1
    exact ⟨⟨a0.1, a0.2, a1⟩, (denVs.append k0 k1), o0, o1⟩
theorem opensC_Disps : Opens Tryz.prog 24 (rC (cSl 3 cDisp) (okSl okDisp)) := opens_sl Tryz.underlying24 Tryz.cellsCDisp (by decide) cDisp_len opensC_Disp
theorem awake22_A : ACall Tryz.prog 14 [] (one (.bool true)) :=
  acall_flat (fnOK_of Tryz.func14 (by decide) rfl) [] (.bool true) awake_any
def fwO : List GOpt → Bool
  | [] => true
  | x :: l => if fewR x.amount = true then fwO l else false
def fwD : List GDisp → Bool
  | [] => true
  | d :: l => if (6 : Int) < (d.opts.length : Int) then false else if fwO d.opts = true then fwD l else false
def fwL (l : List GDisp) : Bool := if (10 : Int) < (l.length : Int) then false else fwD l
theorem lFw22_ar24 : arT Tryz.prog 24 = none := by kernel_rfl
theorem lFw22_ar40 : arT Tryz.prog 40 = none := by kernel_rfl
theorem lFw22_el24 : elT Tryz.prog 24 = some (42, 3, 40) := by kernel_rfl
theorem lFw22_el40 : elT Tryz.prog 40 = some (46, 4, 48) := by kernel_rfl
theorem lFw22_fo42_1 : foT Tryz.prog 42 1 = some (2, 40) := by kernel_rfl
theorem lFw22_fo46_0 : foT Tryz.prog 46 0 = some (0, 44) := by kernel_rfl
theorem lFw22_ld40 : ldT Tryz.prog 40 = some (false, 1) := by kernel_rfl
theorem lFw22_ld44 : ldT Tryz.prog 44 = some (true, 3) := by kernel_rfl
def F_lFw22 := And.intro lFw22_ar24 (And.intro lFw22_ar40 (And.intro lFw22_el24 (And.intro lFw22_el40 (And.intro lFw22_fo42_1 (And.intro lFw22_fo46_0 (And.intro lFw22_ld40 (lFw22_ld44)))))))
set_option maxRecDepth 100000 in
set_option maxHeartbeats 4000000 in
theorem few22_A (l : List GDisp) (hl : okSl okDisp l) : ACall Tryz.prog 13 [.one (.sh 3 l.length (flat cDisp l))] (one (.bool (fwL l))) := by
  have hl1 := hl.1
  unfold maxLen at hl1
  refine acall_of Tryz.func13 rfl (by decide) (N := 42) rfl (by simp) (R := [.tmp 2]) rfl fun en k0 => ?_
  repeat' first|refine awS ?_|refine awB ?_
  refine awR [] [none] ?_
  simp only [(id F_lFw22), (id SS), seval, reduceIte, ne_eq]
  repeat refine ⟨by first|omega|(simp only [List.length_cons];omega)|exact ⟨⟨by omega,by omega⟩,rfl⟩|rfl,?_⟩
  by_cases h1 : (10 : Int) < (l.length : Int)
  · skip
    repeat' first|refine awS ?_|refine awB ?_
    refine awR [] [none, none, none] ?_
    simp only [(id F_lFw22), (id SS), seval, reduceIte, ne_eq, h1]
    repeat refine ⟨by first|omega|(simp only [List.length_cons];omega)|exact ⟨⟨by omega,by omega⟩,rfl⟩|rfl,?_⟩
    repeat' first|refine awS ?_|refine awB ?_
    refine awT ?_
    repeat' first|refine awS ?_|refine awB ?_
    refine awR [] [none] ?_
    simp only [(id F_lFw22), (id SS), seval, reduceIte, ne_eq, h1]
    repeat refine ⟨by first|omega|(simp only [List.length_cons];omega)|exact ⟨⟨by omega,by omega⟩,rfl⟩|rfl,?_⟩
    repeat' first|refine awS ?_|refine awB ?_
    refine awp_ret ?_
    (first | (simp only [(id F_lFw22), (id SS), seval, reduceIte, ne_eq, fwL, h1]; done) | (simp only [(id F_lFw22), (id SS), seval, reduceIte, ne_eq]; first | (simp [fwL, h1]; done)))
  · skip
    repeat' first|refine awS ?_|refine awB ?_
    refine awR [] [none, none, none] ?_
    simp only [(id F_lFw22), (id SS), seval, reduceIte, ne_eq, h1]
    repeat refine ⟨by first|omega|(simp only [List.length_cons];omega)|exact ⟨⟨by omega,by omega⟩,rfl⟩|rfl,?_⟩
    repeat' first|refine awS ?_|refine awB ?_
    refine awF ?_
    refine awp_skip ?_
    simp only [(id F_lFw22), (id SS), seval, reduceIte, ne_eq]
    repeat' first|refine awS ?_|refine awB ?_
    refine awR [] [none] ?_
    simp only [(id F_lFw22), (id SS), seval, reduceIte, ne_eq, h1]
    repeat refine ⟨by first|omega|(simp only [List.length_cons];omega)|exact ⟨⟨by omega,by omega⟩,rfl⟩|rfl,?_⟩
    refine awp_keep [0, 2, 3] [] ?_
    try unfold Later
    try simp only [(id F_lFw22), (id SS), seval, reduceIte, ne_eq, h1]
    repeat' first|refine awS ?_|refine awB ?_
    refine awp_loopw (fun n st => ∃ i0 nx, i0 ≤ l.length ∧ n = l.length - i0 ∧ fwD (l.drop i0) = fwD l ∧ st = ⟨mkT [(0, .val (.one (.sh 3 l.length (flat cDisp l)))), (2, .val (.one (.lit (.bool false)))), (3, one (.int .i64 i0))], mkH [], nx, 0⟩) (l.length) ⟨0, _, by omega, by omega, by rfl, rfl⟩ ?_
    rintro n0 st ⟨i0, nx0, hk0, rfl, hL0, rfl⟩
    by_cases hlt0 : i0 < l.length
    · skip
      have hI0 : (i0 : Int) < (l.length : Int) := by omega
      have hat0 := flat_at cDisp_len l i0 hlt0
      try rw [Nat.mul_one] at hat0
      rw [List.drop_eq_getElem_cons hlt0] at hL0
      have hd := hl.2 _ (List.getElem_mem hlt0)
      have hd1 := hd.2.1
      unfold maxLen at hd1
      generalize l[i0] = d at *
      simp only [fwD] at hL0
      repeat' first|refine awS ?_|refine awB ?_
      refine awR [] [none, none, none, none] ?_
      simp only [(id F_lFw22), (id SS), seval, reduceIte, ne_eq, h1, hI0, hat0]
      repeat refine ⟨by first|omega|(simp only [List.length_cons];omega)|exact ⟨⟨by omega,by omega⟩,rfl⟩|rfl,?_⟩
      repeat' first|refine awS ?_|refine awB ?_
      refine awT ?_
      refine awp_skip ?_
      simp only [(id F_lFw22), (id SS), seval, reduceIte, ne_eq]
      by_cases h2 : (6 : Int) < (d.opts.length : Int)
      · skip
        repeat' first|refine awS ?_|refine awB ?_
        refine awR [] [none, none, none, none, none, none, none] ?_
        simp only [(id F_lFw22), (id SS), seval, reduceIte, ne_eq, h1, hI0, hat0, h2, cDisp]
        repeat refine ⟨by first|omega|(simp only [List.length_cons];omega)|exact ⟨⟨by omega,by omega⟩,rfl⟩|rfl,?_⟩
        repeat' first|refine awS ?_|refine awB ?_
        refine awT ?_
        repeat' first|refine awS ?_|refine awB ?_
        refine awR [] [none] ?_
        simp only [(id F_lFw22), (id SS), seval, reduceIte, ne_eq, h1, hI0, hat0, h2]
        repeat refine ⟨by first|omega|(simp only [List.length_cons];omega)|exact ⟨⟨by omega,by omega⟩,rfl⟩|rfl,?_⟩
        repeat' first|refine awS ?_|refine awB ?_
        refine awp_ret ?_
        (first | (simp only [(id F_lFw22), (id SS), seval, reduceIte, ne_eq, fwL, h1, hI0, hat0, h2, ← hL0]; done) | (simp only [(id F_lFw22), (id SS), seval, reduceIte, ne_eq]; first | (simp [fwL, h1, hI0, hat0, h2, ← hL0]; done) | (simp [fwL, h1, hI0, hat0, h2]; done) | (rw [← hL0]; simp [fwL, h1, hI0, hat0, h2]; done)))
      · skip
        repeat' first|refine awS ?_|refine awB ?_
        refine awR [] [none, none, none, none, none, none, none] ?_
        simp only [(id F_lFw22), (id SS), seval, reduceIte, ne_eq, h1, hI0, hat0, h2, cDisp]
        repeat refine ⟨by first|omega|(simp only [List.length_cons];omega)|exact ⟨⟨by omega,by omega⟩,rfl⟩|rfl,?_⟩
        repeat' first|refine awS ?_|refine awB ?_
        refine awF ?_
        refine awp_skip ?_
        simp only [(id F_lFw22), (id SS), seval, reduceIte, ne_eq]
        repeat' first|refine awS ?_|refine awB ?_
        refine awR [] [none] ?_
        simp only [(id F_lFw22), (id SS), seval, reduceIte, ne_eq, h1, hI0, hat0, h2]
        repeat refine ⟨by first|omega|(simp only [List.length_cons];omega)|exact ⟨⟨by omega,by omega⟩,rfl⟩|rfl,?_⟩
        refine awp_keep [0, 2, 3, 4] [] ?_
        try unfold Later
        try simp only [(id F_lFw22), (id SS), seval, reduceIte, ne_eq, h1, hI0, hat0, h2]
        repeat' first|refine awS ?_|refine awB ?_
        refine awp_loopw (fun n st => ∃ q nx, q ≤ d.opts.length ∧ n = d.opts.length - q ∧ fwO (d.opts.drop q) = fwO d.opts ∧ st = ⟨mkT [(0, .val (.one (.sh 3 l.length (flat cDisp l)))), (2, .val (.one (.lit (.bool false)))), (3, one (.int .i64 i0)), (4, one (.int .i64 q))], mkH [], nx, 0⟩) (d.opts.length) ⟨0, _, by omega, by omega, by rfl, rfl⟩ ?_
        rintro n1 st ⟨q, nx1, hk1, rfl, hL1, rfl⟩
        by_cases hlt1 : q < d.opts.length
        · skip
          have hI1 : (q : Int) < (d.opts.length : Int) := by omega
          have hat1 := flat_at cOpt_len d.opts q hlt1
          try rw [Nat.mul_one] at hat1
          rw [List.drop_eq_getElem_cons hlt1] at hL1
          generalize d.opts[q] = x at *
          simp only [fwO] at hL1
          repeat' first|refine awS ?_|refine awB ?_
          refine awR [] [none, none, none, none, none, none, none, none] ?_
          simp only [(id F_lFw22), (id SS), seval, reduceIte, ne_eq, h1, hI0, hat0, h2, hI1, hat1, cDisp]
          repeat refine ⟨by first|omega|(simp only [List.length_cons];omega)|exact ⟨⟨by omega,by omega⟩,rfl⟩|rfl,?_⟩
          repeat' first|refine awS ?_|refine awB ?_
          refine awT ?_
          refine awp_skip ?_
          simp only [(id F_lFw22), (id SS), seval, reduceIte, ne_eq]
          by_cases h3 : fewR x.amount = true
          · skip
            repeat' first|refine awS ?_|refine awB ?_
            refine awR [] [none, none, none, none, none, none, none, none, none, none, none] ?_
            simp only [(id F_lFw22), (id SS), seval, reduceIte, ne_eq, h1, hI0, hat0, h2, hI1, hat1, h3, cDisp, cOpt, cRat]
            repeat refine ⟨by first|omega|(simp only [List.length_cons];omega)|exact ⟨⟨by omega,by omega⟩,rfl⟩|rfl,?_⟩
            refine ⟨_, (fewR_A x.amount), rfl, ?_⟩
            try unfold Later
            try simp only [(id F_lFw22), (id SS), seval, reduceIte, ne_eq, h1, hI0, hat0, h2, hI1, hat1, h3, cDisp, cOpt, cRat]
            repeat refine ⟨by first|omega|(simp only [List.length_cons];omega)|exact ⟨⟨by omega,by omega⟩,rfl⟩|rfl,?_⟩
            repeat' first|refine awS ?_|refine awB ?_
            refine awF ?_
            refine awp_skip ?_
            simp only [(id F_lFw22), (id SS), seval, reduceIte, ne_eq]
            repeat' first|refine awS ?_|refine awB ?_
            refine awR [] [none, none, none] ?_
            simp only [(id F_lFw22), (id SS), seval, reduceIte, ne_eq, h1, hI0, hat0, h2, hI1, hat1, h3]
            repeat refine ⟨by first|omega|(simp only [List.length_cons];omega)|exact ⟨⟨by omega,by omega⟩,rfl⟩|rfl,?_⟩
            repeat refine ⟨by first|omega|(simp only [List.length_cons];omega)|exact ⟨⟨by omega,by omega⟩,rfl⟩|rfl,?_⟩
            refine ⟨_, wk_keep [0, 2, 3, 4] [], d.opts.length - (q + 1), by omega, q + 1, ?a15_nx, by omega, rfl, ?i15_0, ?st15⟩
            case st15 => (simp only [(id F_lFw22), (id SS), seval, reduceIte, ne_eq, h1, hI0, hat0, h2, hI1, hat1, h3]; first | rfl | (simp [h1, hI0, hat0, h2, hI1, hat1, h3, Nat.add_mul]; done))
            case i15_0 => (first | exact hL1 | (rw [← hL1]; simp only [reduceIte, h1, hI0, hat0, h2, hI1, hat1, h3]; done) | (rw [← hL1]; simp [h1, hI0, hat0, h2, hI1, hat1, h3]; done) | (simp [h1, hI0, hat0, h2, hI1, hat1, h3] at hL1; simpa using hL1) | (rw [← hL1]; simp [*]; done))
          · skip
            repeat' first|refine awS ?_|refine awB ?_
            refine awR [] [none, none, none, none, none, none, none, none, none, none, none] ?_
            simp only [(id F_lFw22), (id SS), seval, reduceIte, ne_eq, h1, hI0, hat0, h2, hI1, hat1, h3, cDisp, cOpt, cRat]
            repeat refine ⟨by first|omega|(simp only [List.length_cons];omega)|exact ⟨⟨by omega,by omega⟩,rfl⟩|rfl,?_⟩
            refine ⟨_, (fewR_A x.amount), rfl, ?_⟩
            try unfold Later
            try simp only [(id F_lFw22), (id SS), seval, reduceIte, ne_eq, h1, hI0, hat0, h2, hI1, hat1, h3, cDisp, cOpt, cRat]
            repeat refine ⟨by first|omega|(simp only [List.length_cons];omega)|exact ⟨⟨by omega,by omega⟩,rfl⟩|rfl,?_⟩
            repeat' first|refine awS ?_|refine awB ?_
            refine awT ?_
            repeat' first|refine awS ?_|refine awB ?_
            refine awR [] [none] ?_
            simp only [(id F_lFw22), (id SS), seval, reduceIte, ne_eq, h1, hI0, hat0, h2, hI1, hat1, h3]
            repeat refine ⟨by first|omega|(simp only [List.length_cons];omega)|exact ⟨⟨by omega,by omega⟩,rfl⟩|rfl,?_⟩
            repeat' first|refine awS ?_|refine awB ?_
            refine awp_ret ?_
            (first | (simp only [(id F_lFw22), (id SS), seval, reduceIte, ne_eq, fwL, h1, hI0, hat0, h2, hI1, hat1, h3, ← hL0, ← hL1]; done) | (simp only [(id F_lFw22), (id SS), seval, reduceIte, ne_eq]; first | (simp [fwL, h1, hI0, hat0, h2, hI1, hat1, h3, ← hL0, ← hL1]; done) | (simp [fwL, h1, hI0, hat0, h2, hI1, hat1, h3]; done) | (rw [← hL0, ← hL1]; simp [fwL, h1, hI0, hat0, h2, hI1, hat1, h3]; done)))
        · skip
          obtain rfl : q = d.opts.length := by omega
          have hI1 : ¬ (d.opts.length : Int) < (d.opts.length : Int) := by omega
          rw [List.drop_length] at hL1
          simp only [fwO] at hL1
          repeat' first|refine awS ?_|refine awB ?_
          refine awR [] [none, none, none, none, none, none, none, none] ?_
          simp only [(id F_lFw22), (id SS), seval, reduceIte, ne_eq, h1, hI0, hat0, h2, hI1, cDisp]
          repeat refine ⟨by first|omega|(simp only [List.length_cons];omega)|exact ⟨⟨by omega,by omega⟩,rfl⟩|rfl,?_⟩
          repeat' first|refine awS ?_|refine awB ?_
          refine awF ?_
          refine awp_exit ?_
          simp only [(id F_lFw22), (id SS), seval, reduceIte, ne_eq]
          repeat' first|refine awS ?_|refine awB ?_
          refine awR [] [none, none, none] ?_
          simp only [(id F_lFw22), (id SS), seval, reduceIte, ne_eq, h1, hI0, hat0, h2, hI1]
          repeat refine ⟨by first|omega|(simp only [List.length_cons];omega)|exact ⟨⟨by omega,by omega⟩,rfl⟩|rfl,?_⟩
          repeat refine ⟨by first|omega|(simp only [List.length_cons];omega)|exact ⟨⟨by omega,by omega⟩,rfl⟩|rfl,?_⟩
          refine ⟨_, wk_keep [0, 2, 3] [], l.length - (i0 + 1), by omega, i0 + 1, ?a21_nx, by omega, rfl, ?i21_0, ?st21⟩
          case st21 => (simp only [(id F_lFw22), (id SS), seval, reduceIte, ne_eq, h1, hI0, hat0, h2, hI1]; first | rfl | (simp [h1, hI0, hat0, h2, hI1, Nat.add_mul]; done))
          case i21_0 => (first | exact hL0 | (rw [← hL0]; simp [h1, hI0, hat0, h2, hI1, ← hL1]; done) | (rw [← hL0]; simp only [reduceIte, h1, hI0, hat0, h2, hI1]; done) | (rw [← hL0]; simp [h1, hI0, hat0, h2, hI1]; done) | (simp [h1, hI0, hat0, h2, hI1] at hL0; simpa using hL0) | (rw [← hL0]; simp [*]; done))
    · skip
      obtain rfl : i0 = l.length := by omega
      have hI0 : ¬ (l.length : Int) < (l.length : Int) := by omega
      rw [List.drop_length] at hL0
      simp only [fwD] at hL0
      repeat' first|refine awS ?_|refine awB ?_
      refine awR [] [none, none, none, none] ?_
      simp only [(id F_lFw22), (id SS), seval, reduceIte, ne_eq, h1, hI0]
      repeat refine ⟨by first|omega|(simp only [List.length_cons];omega)|exact ⟨⟨by omega,by omega⟩,rfl⟩|rfl,?_⟩
      repeat' first|refine awS ?_|refine awB ?_
      refine awF ?_
      refine awp_exit ?_
      simp only [(id F_lFw22), (id SS), seval, reduceIte, ne_eq]
      repeat' first|refine awS ?_|refine awB ?_
      refine awR [] [none] ?_
      simp only [(id F_lFw22), (id SS), seval, reduceIte, ne_eq, h1, hI0]
      repeat refine ⟨by first|omega|(simp only [List.length_cons];omega)|exact ⟨⟨by omega,by omega⟩,rfl⟩|rfl,?_⟩
      repeat' first|refine awS ?_|refine awB ?_
      refine awp_ret ?_
      (first | (simp only [(id F_lFw22), (id SS), seval, reduceIte, ne_eq, fwL, h1, hI0, ← hL0]; done) | (simp only [(id F_lFw22), (id SS), seval, reduceIte, ne_eq]; first | (simp [fwL, h1, hI0, ← hL0]; done) | (simp [fwL, h1, hI0]; done) | (rw [← hL0]; simp [fwL, h1, hI0]; done)))
theorem fwO_ok : ∀ {l : List GOpt}, fwO l = true → ∀ x ∈ l, ratOK x.amount
  | [], _, c, hc => by cases hc
  | a :: l, h, c, hc => by
    simp only [fwO] at h
    split at h
    · rcases List.mem_cons.1 hc with rfl | hc
      · exact fewR_ok ‹_›
      · exact fwO_ok h c hc
    · cases h
theorem fwD_ok : ∀ {l : List GDisp}, fwD l = true → ∀ d ∈ l, d.opts.length ≤ 1000000 ∧ ∀ x ∈ d.opts, ratOK x.amount
  | [], _, c, hc => by cases hc
  | a :: l, h, c, hc => by
    simp only [fwD] at h
    split at h
    · cases h
    · split at h
      · rcases List.mem_cons.1 hc with rfl | hc
        · exact ⟨by omega, fwO_ok ‹_›⟩
        · exact fwD_ok h c hc
      · cases h
theorem fwL_ok {l : List GDisp} (h : fwL l = true) : dispsOK l := by
  unfold fwL at h
  split at h
  · cases h
  · exact ⟨by omega, fwD_ok h⟩
theorem lDC_ld30 : ldT Tryz.prog 30 = some (true, 2) := by kernel_rfl
theorem lDC_zr30 : zrT Tryz.prog 30 = some [.slice none 0 0, .slice none 0 0] := by kernel_rfl
def F_lDC := And.intro lDC_ld30 (lDC_zr30)
set_option maxRecDepth 100000 in
set_option maxHeartbeats 4000000 in
theorem lDC_A (n : Nat) (cash : List Nat) (list : List N4) (l : List GDisp) (hn : n < 256) (hcs : okSl (· < 65536) cash) (hls : okSl okN4 list) (hl : okSl okDisp l) : ACall Tryz.prog 3 [.one (.lit (.int .u8 n)), .one (.sh 1 cash.length (flat cU16 cash)), .one (.sh 4 list.length (flat cN4 list)), .one (.sh 3 l.length (flat cDisp l))] (one (.bool true)) := by
  have hc1 : cash.length ≤ 9223372036854775807 := Nat.le_trans hcs.1 (by decide)
  have hl1 : list.length ≤ 9223372036854775807 := Nat.le_trans hls.1 (by decide)
  refine acall_of Tryz.func3 rfl (by decide) (N := 28) rfl (by simp) (R := [.tmp 8]) rfl fun en k0 => ?_
  repeat' first|refine awS ?_|refine awB ?_
  refine awR [] [none] ?_
  simp only [(id F_lDC), (id SS), seval, reduceIte, ne_eq]
  repeat refine ⟨by first|omega|(simp only [List.length_cons];omega)|exact ⟨⟨by omega,by omega⟩,rfl⟩|rfl,?_⟩
  by_cases hf : fwL l = true
  · skip
    have hF := few22_A l hl
    repeat' first|refine awS ?_|refine awB ?_
    refine awR [] [none, none, none] ?_
    simp only [(id F_lDC), (id SS), seval, reduceIte, ne_eq, hf, flat_pure cDisp_pure]
    repeat refine ⟨by first|omega|(simp only [List.length_cons];omega)|exact ⟨⟨by omega,by omega⟩,rfl⟩|rfl,?_⟩
    refine ⟨_, hF, (by first | rfl | simp [allA, pure1, pureCs, pureC, A1.cells, cGrp, flat_pure cEst_pure, flat_pure cDebt_pure]), ?_⟩
    try unfold Later
    try simp only [(id F_lDC), (id SS), seval, reduceIte, ne_eq, hf, flat_pure cDisp_pure]
    repeat refine ⟨by first|omega|(simp only [List.length_cons];omega)|exact ⟨⟨by omega,by omega⟩,rfl⟩|rfl,?_⟩
    repeat' first|refine awS ?_|refine awB ?_
    refine awF ?_
    refine awp_skip ?_
    simp only [(id F_lDC), (id SS), seval, reduceIte, ne_eq]
    have hG := group_nil n cash list hn hcs.2 hls.2 hc1 hl1
    have hok := grpN_ok n cash list [] []
    repeat' first|refine awS ?_|refine awB ?_
    refine awR [] [none, none, none, none, none, none] ?_
    simp only [(id F_lDC), (id SS), seval, reduceIte, ne_eq, hf, cGrp, flat_pure cU16_pure, flat_pure cN4_pure]
    repeat refine ⟨by first|omega|(simp only [List.length_cons];omega)|exact ⟨⟨by omega,by omega⟩,rfl⟩|rfl,?_⟩
    refine ⟨_, hG, (by first | rfl | simp [allA, pure1, pureCs, pureC, A1.cells, cGrp, flat_pure cEst_pure, flat_pure cDebt_pure]), ?_⟩
    try unfold Later
    try simp only [(id F_lDC), (id SS), seval, reduceIte, ne_eq, hf, cGrp, flat_pure cU16_pure, flat_pure cN4_pure]
    repeat refine ⟨by first|omega|(simp only [List.length_cons];omega)|exact ⟨⟨by omega,by omega⟩,rfl⟩|rfl,?_⟩
    generalize grpN n cash list [] [] = g at *
    have hC := dCheck_A g l (grpOK2_ok hok.1) (fwL_ok hf)
    have hD := rCheck_A g l hok.1 (fwL_ok hf)
    rw [← gc_cg, ← dc_rc] at hD
    repeat' first|refine awS ?_|refine awB ?_
    refine awp_draws (by kernel_rfl) (.cons 0 false (.cons 1 true (.cons 2 true (.cons 3 true (.cons 5 true (.cons 6 true (.cons 4 false (.cons 7 false (.cons 8 true (.cons 9 true (.cons 10 true .nil))))))))))) (by kernel_rfl) (gs := [none, none, some (19, true), some (19, true), some (19, true), some (19, true), some (19, true), some (19, true), some (19, true), none, none]) (by kernel_rfl) (by simp only [(id SS), seval, reduceIte, ne_eq]; rfl) (by decide) ?_
    simp only [(id F_lDC), (id SS), seval, reduceIte, ne_eq, hf, cGrp, flat_pure cEst_pure, flat_pure cDebt_pure, flat_pure cDisp_pure, BEq.rfl]
    repeat refine ⟨by first|omega|(simp only [List.length_cons];omega)|exact ⟨⟨by omega,by omega⟩,rfl⟩|rfl,?_⟩
    refine ⟨_, awake22_A, (by first | rfl | simp [allA, pure1, pureCs, pureC, A1.cells, cGrp, flat_pure cEst_pure, flat_pure cDebt_pure]), ?_⟩
    try unfold Later
    try simp only [(id F_lDC), (id SS), seval, reduceIte, ne_eq, hf, cGrp, flat_pure cEst_pure, flat_pure cDebt_pure, flat_pure cDisp_pure, BEq.rfl]
    repeat refine ⟨by first|omega|(simp only [List.length_cons];omega)|exact ⟨⟨by omega,by omega⟩,rfl⟩|rfl,?_⟩
    refine ⟨_, hC, (by first | rfl | simp [allA, pure1, pureCs, pureC, A1.cells, cGrp, flat_pure cEst_pure, flat_pure cDebt_pure]), ?_⟩
    try unfold Later
    try simp only [(id F_lDC), (id SS), seval, reduceIte, ne_eq, hf, cGrp, flat_pure cEst_pure, flat_pure cDebt_pure, flat_pure cDisp_pure, BEq.rfl]
    repeat refine ⟨by first|omega|(simp only [List.length_cons];omega)|exact ⟨⟨by omega,by omega⟩,rfl⟩|rfl,?_⟩
    refine ⟨_, hD, (by first | rfl | simp [allA, pure1, pureCs, pureC, A1.cells, cGrp, flat_pure cEst_pure, flat_pure cDebt_pure]), ?_⟩
    try unfold Later
    try simp only [(id F_lDC), (id SS), seval, reduceIte, ne_eq, hf, cGrp, flat_pure cEst_pure, flat_pure cDebt_pure, flat_pure cDisp_pure, BEq.rfl]
    repeat refine ⟨by first|omega|(simp only [List.length_cons];omega)|exact ⟨⟨by omega,by omega⟩,rfl⟩|rfl,?_⟩
    repeat' first|refine awS ?_|refine awB ?_
    refine awp_ret ?_
    (first | (simp only [(id F_lDC), (id SS), seval, reduceIte, ne_eq, hf]; done) | (simp only [(id F_lDC), (id SS), seval, reduceIte, ne_eq]; first | (simp [hf]; done)))
  · skip
    have hF := few22_A l hl
    repeat' first|refine awS ?_|refine awB ?_
    refine awR [] [none, none, none] ?_
    simp only [(id F_lDC), (id SS), seval, reduceIte, ne_eq, hf, flat_pure cDisp_pure]
    repeat refine ⟨by first|omega|(simp only [List.length_cons];omega)|exact ⟨⟨by omega,by omega⟩,rfl⟩|rfl,?_⟩
    refine ⟨_, hF, (by first | rfl | simp [allA, pure1, pureCs, pureC, A1.cells, cGrp, flat_pure cEst_pure, flat_pure cDebt_pure]), ?_⟩
    try unfold Later
    try simp only [(id F_lDC), (id SS), seval, reduceIte, ne_eq, hf, flat_pure cDisp_pure]
    repeat refine ⟨by first|omega|(simp only [List.length_cons];omega)|exact ⟨⟨by omega,by omega⟩,rfl⟩|rfl,?_⟩
    repeat' first|refine awS ?_|refine awB ?_
    refine awT ?_
    repeat' first|refine awS ?_|refine awB ?_
    refine awR [] [none, none] ?_
    simp only [(id F_lDC), (id SS), seval, reduceIte, ne_eq, hf]
    repeat refine ⟨by first|omega|(simp only [List.length_cons];omega)|exact ⟨⟨by omega,by omega⟩,rfl⟩|rfl,?_⟩
    refine ⟨_, awake22_A, (by first | rfl | simp [allA, pure1, pureCs, pureC, A1.cells, cGrp, flat_pure cEst_pure, flat_pure cDebt_pure]), ?_⟩
    try unfold Later
    try simp only [(id F_lDC), (id SS), seval, reduceIte, ne_eq, hf]
    repeat refine ⟨by first|omega|(simp only [List.length_cons];omega)|exact ⟨⟨by omega,by omega⟩,rfl⟩|rfl,?_⟩
    repeat' first|refine awS ?_|refine awB ?_
    refine awp_ret ?_
    (first | (simp only [(id F_lDC), (id SS), seval, reduceIte, ne_eq, hf]; done) | (simp only [(id F_lDC), (id SS), seval, reduceIte, ne_eq]; first | (simp [hf]; done)))
theorem lDC_walk (v0 v1 v2 v3 : Value) (n : Nat) (cash : List Nat) (list : List N4) (l : List GDisp) (W : World) (o0 : rC (fun n : Nat => [.lit (.int .u8 n)]) (· < 256) W (LT W.heap.size) [v0] n) (o1 : rC (cSl 1 cU16) (okSl (· < 65536)) W (LT W.heap.size) [v1] cash) (o2 : rC (cSl 4 cN4) (okSl okN4) W (LT W.heap.size) [v2] list) (o3 : rC (cSl 3 cDisp) (okSl okDisp) W (LT W.heap.size) [v3] l) :
    Calls Tryz.prog 3 #[v0, v1, v2, v3] W fun e w' => e = .returned (.bool true) ∧ Below W.heap.size W w' := by
  obtain ⟨h0, k0⟩ := den_oneC o0 rfl
  obtain ⟨h1, k1⟩ := den_oneC o1 rfl
  obtain ⟨h2, k2⟩ := den_oneC o2 rfl
  obtain ⟨h3, k3⟩ := den_oneC o3 rfl
  exact acall_law (vs := [v0, v1, v2, v3]) (lDC_A n cash list l k0 k1 k2 k3) ⟨h0, h1, h2, h3, trivial⟩
end Go.Proofs.YtogeijhepjcbgaaGreatDoor
