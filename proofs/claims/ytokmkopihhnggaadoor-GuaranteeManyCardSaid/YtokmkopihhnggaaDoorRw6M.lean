/- The reference: CheckGroup, FindLeg; walked by the abstract machine. -/
import Derived.Test.YtokmkopihhnggaaDoorGc2M
import Derived.Test.YtokmkopihhnggaaDoorBaseM
import Derived.ProofKit
import Derived.OpenShut
import Derived.Deep.Slices
import Derived.Test.YtokmkopihhnggaaDoorProg
import Derived.Deep.Strs
import Derived.Test.YtokmkopihhnggaaDoorAbGM
set_option linter.unusedVariables false
set_option linter.unusedSimpArgs false
set_option linter.defProp false
set_option linter.unnecessarySimpa false
section
/- The reference: CheckGroup, FindLeg; walked by the abstract machine. -/
namespace Go.Proofs.YtokmkopihhnggaaDoor
open Go Go.RowKit
end Go.Proofs.YtokmkopihhnggaaDoor
end
section
/- guarantee.Find; walked by the abstract machine. -/
namespace Go.Proofs.YtokmkopihhnggaaDoor
open Go Go.RowKit
end Go.Proofs.YtokmkopihhnggaaDoor
end
section
/- Plain law: the program's check of an estate is the reference's. No walk. -/
namespace Go.Proofs.YtokmkopihhnggaaDoor
open Go Go.RowKit
end Go.Proofs.YtokmkopihhnggaaDoor
end
section
/- Plain law: the program's check of a group is the reference's. No walk. -/
namespace Go.Proofs.YtokmkopihhnggaaDoor
open Go Go.RowKit
end Go.Proofs.YtokmkopihhnggaaDoor
end
section
/- Plain law of GuaranteeMany: which numbers of estates, debts and legs the check accepts. No walk. -/
namespace Go.Proofs.YtokmkopihhnggaaDoor
open Go Go.RowKit
def gmR : GRat := ⟨false, bEmpty, bEmpty⟩
def gmZ : GClaim := ⟨0, 0, gmR⟩
def gmC : GClaim := ⟨-1, 0, gmR⟩
def gmCs : List GClaim := List.replicate 20 gmC
theorem gmCs_len : gmCs.length = 20 := List.length_replicate ..
def gmE : GEst := ⟨gmR, gmCs, []⟩
def gmL : Nat → List Leg
  | 0 => []
  | k + 1 => gmL k ++ [((0 : Int), (k : Int))]
def gmD (L : Nat) : GDebt := ⟨gmR, gmL L⟩
def gmDs : Nat → Nat → List GDebt
  | 0, _ => []
  | d + 1, L => gmD L :: List.replicate d (gmD 0)
def gmG (N D L : Nat) : GGrp := ⟨List.replicate N gmE, gmDs D L⟩
theorem gmL_len : ∀ k, (gmL k).length = k
  | 0 => rfl
  | k + 1 => by simp [gmL, gmL_len k]
theorem gmL_mem : ∀ k (l : Leg), l ∈ gmL k ↔ l.1 = 0 ∧ 0 ≤ l.2 ∧ l.2 < k
  | 0, l => by simp [gmL]
  | k + 1, l => by
    rw [gmL, List.mem_append, gmL_mem k l, List.mem_singleton]
    obtain ⟨a, b⟩ := l
    simp only [Prod.mk.injEq]
    omega
theorem gmDs_len : ∀ d L, (gmDs d L).length = d
  | 0, _ => rfl
  | d + 1, L => by simp [gmDs]
theorem gmR_sgn : ¬ qSgn (qOf gmR) < 0 := by
  have h : gmR = enc 0 := by rw [enc_zero]; rfl
  rw [h, qOf_enc]
  unfold qSgn qCmp
  grind
theorem gm_wcC : ∀ n, wcClaims (List.replicate n gmC) = 0
  | 0 => rfl
  | n + 1 => by
    rw [List.replicate_succ, wcClaims, gm_wcC n]
    have := gmR_sgn
    simp [gmC, this]
theorem gm_wc : wcSpec gmE = 0 := by
  have h := gmR_sgn
  have h2 : wcClaims gmCs = 0 := gm_wcC 20
  simp [wcSpec, gmE, h, h2, wcAgrs, gmCs_len]
theorem gm_ests : ∀ n, gcEsts (List.replicate n gmE) = 0
  | 0 => rfl
  | n + 1 => by simp [List.replicate_succ, gcEsts, gm_wc, gm_ests n]
theorem gm_hold (n i : Int) (hn : 0 ≤ n) (hi : 0 ≤ i) : ∀ k, gcHold n i (List.replicate k gmC) = false
  | 0 => rfl
  | k + 1 => by
    rw [List.replicate_succ, gcHold, gm_hold n i hn hi k]
    have h1 : ¬ (-1 = i) := by omega
    have h2 : ¬ (n ≤ -1) := by omega
    simp [gmC, h1, h2]
theorem gm_holds (n : Int) (hn : 0 ≤ n) : ∀ k (i : Int), 0 ≤ i → gcHolds n i (List.replicate k gmE) = false
  | 0, _, _ => rfl
  | k + 1, i, hi => by
    rw [List.replicate_succ, gcHolds, gm_holds n hn k (i + 1) (by omega)]
    have : gcHold n i gmCs = false := gm_hold n i hn hi 20
    simp [gmE, this]
theorem cdLoop_ok (es : List GEst) (h0 : Int) : ∀ (ls T : List Leg), (∀ l ∈ ls, inEsts es l = true ∧ (claimAt es l).holder = h0) → ls.Nodup → (∀ l ∈ ls, l ∉ T) → cdLoop es h0 ls T = (0, T ++ ls)
  | [], T, _, _, _ => by simp [cdLoop]
  | l :: ls, T, h, hn, hd => by
    have h1 := h l (by simp)
    have h2 := hd l (by simp)
    rw [cdLoop, if_neg (by simp [h1.1]), if_neg h2, if_neg (by simp [h1.2]), cdLoop_ok es h0 ls (T ++ [l]) (fun x hx => h x (List.mem_cons_of_mem _ hx)) (List.nodup_cons.1 hn).2 (fun x hx => ?_)]
    · simp
    intro hm
    rcases List.mem_append.1 hm with hm | hm
    · exact hd x (List.mem_cons_of_mem _ hx) hm
    obtain rfl := List.mem_singleton.1 hm
    exact (List.nodup_cons.1 hn).1 hx
theorem gmL_nodup : ∀ k, (gmL k).Nodup
  | 0 => List.nodup_nil
  | k + 1 => by
    rw [gmL, List.nodup_append]
    refine ⟨gmL_nodup k, by simp, fun a ha b hb => ?_⟩
    obtain rfl := List.mem_singleton.1 hb
    intro e
    subst e
    have := (gmL_mem k _).1 ha
    simp at this
theorem gm_at (N : Nat) (hN : 1 ≤ N) (L : Nat) (hL : L ≤ 12) (l : Leg) (h : l ∈ gmL L) : inEsts (List.replicate N gmE) l = true ∧ (claimAt (List.replicate N gmE) l).holder = -1 := by
  obtain ⟨h1, h2, h3⟩ := (gmL_mem L l).1 h
  obtain ⟨a, b⟩ := l
  obtain rfl : a = 0 := h1
  obtain ⟨N, rfl⟩ : ∃ m, N = m + 1 := ⟨N - 1, by omega⟩
  have hg : (List.replicate (N + 1) gmE).getD (0 : Int).toNat ztEst = gmE := rfl
  simp only at h2 h3
  constructor
  · simp only [inEsts, hg, Bool.and_eq_true, decide_eq_true_eq]
    simp [gmE, gmCs_len]
    omega
  simp only [claimAt, hg]
  have hm : gmCs.getD b.toNat default ∈ gmCs := by
    rw [List.getD_eq_getElem?_getD, List.getElem?_eq_getElem (show b.toNat < gmCs.length by rw [gmCs_len]; omega)]; exact List.getElem_mem _
  have h9 : gmCs.getD b.toNat default = gmC := (List.mem_replicate.1 hm).2
  show (gmCs.getD b.toNat default).holder = -1
  rw [h9]; rfl
theorem gm_none (g : GGrp) : ∀ (n : Nat) (T : List Leg), gcDebts g (List.replicate n (gmD 0)) T = 0
  | 0, _ => rfl
  | n + 1, T => by
    have h : cdSpec g (gmD 0) T = (0, T) := by
      have := gmR_sgn
      simp [cdSpec, gmD, gmL, this, cdLoop]
    rw [List.replicate_succ, gcDebts, h]
    simp [gm_none g n T]
theorem gm_debts (N : Nat) (hN : 1 ≤ N) (d L : Nat) (hL : L ≤ 12) (es : List GEst) (hes : es = List.replicate N gmE) (ds : List GDebt) : gcDebts ⟨es, ds⟩ (gmDs d L) [] = if 0 < d ∧ 8 < L then 2 else 0 := by
  subst hes
  cases d with
  | zero => rfl
  | succ d =>
    rw [gmDs, gcDebts]
    have hs := gmR_sgn
    by_cases h8 : 8 < L
    · have h : cdSpec ⟨List.replicate N gmE, ds⟩ (gmD L) [] = (2, []) := by
        unfold cdSpec
        rw [if_pos (show 8 < (gmD L).legs.length by show 8 < (gmL L).length; rw [gmL_len]; exact h8)]
      rw [h, if_pos (by decide), if_pos ⟨by omega, h8⟩]
    have hh : ∀ l ∈ gmL L, inEsts (List.replicate N gmE) l = true ∧ (claimAt (List.replicate N gmE) l).holder = (claimAt (List.replicate N gmE) ((gmL L).getD 0 (0, 0))).holder := fun l hl => by
      have h1 := gm_at N hN L hL l hl
      have h2 : (gmL L).getD 0 (0, 0) ∈ gmL L := by
        have : 0 < (gmL L).length := List.length_pos_of_mem hl
        rw [List.getD_eq_getElem?_getD, List.getElem?_eq_getElem this]; exact List.getElem_mem _
      exact ⟨h1.1, by rw [h1.2, (gm_at N hN L hL _ h2).2]⟩
    have h : cdSpec ⟨List.replicate N gmE, ds⟩ (gmD L) [] = (0, gmL L) := by
      unfold cdSpec
      rw [if_neg (show ¬ 8 < (gmD L).legs.length by show ¬ 8 < (gmL L).length; rw [gmL_len]; exact h8), if_neg (show ¬ qSgn (qOf (gmD L).whole) < 0 from hs)]
      have h7 := cdLoop_ok _ _ (gmL L) [] hh (gmL_nodup L) (by simp)
      rw [List.nil_append] at h7
      exact h7
    rw [h, if_neg (by simp), gm_none, if_neg (fun x => h8 x.2)]
theorem gm_spec (N D L : Nat) (hN : 1 ≤ N) (hL : L ≤ 12) : gcSpec (gmG N D L) = if 8 < N ∨ 16 < D ∨ 0 < D ∧ 8 < L then 2 else 0 := by
  unfold gcSpec
  have h1 := gm_ests N
  have h2 := gm_holds N (by omega) N 0 (by omega)
  have h3 := gm_debts N hN D L hL _ rfl (gmDs D L)
  simp only [gmG, List.length_replicate, gmDs_len, h1, h2, h3]
  by_cases a : 8 < N <;> by_cases b : 16 < D <;> by_cases c : 0 < D ∧ 8 < L <;> simp [a, b, c]
theorem gm_ok (N D L : Nat) : grpOK (gmG N D L) := by
  have hr : ratOK gmR := ⟨by decide, by decide⟩
  refine ⟨fun e he => ?_, fun d hd => ?_⟩
  · obtain rfl := (List.mem_replicate.1 he).2
    refine ⟨hr, fun c hc => ?_, by show gmCs.length ≤ _; rw [gmCs_len]; decide, fun a ha => by cases ha⟩
    obtain rfl := (List.mem_replicate.1 hc).2
    exact hr
  cases D with
  | zero => cases hd
  | succ D =>
    rcases List.mem_cons.1 hd with rfl | hd
    · exact hr
    obtain rfl := (List.mem_replicate.1 hd).2
    exact hr
end Go.Proofs.YtokmkopihhnggaaDoor
end
section
/- From a walked law to its row: the arguments opened into plain readings; what stands behind the call. No program in sight. -/
namespace Go.Proofs.YtokmkopihhnggaaDoor
open Go.RowKit Go.ChangeShapes Go.WideShapes Go.ChangeAt
theorem trodAll_below {H : Type} {enc : TypeId × Value → H} {P : Program} (hl : laidOutB P = true) {W W' : World} (hb : Below W.heap.size W W') :
    ∀ (ts : List TypeId) (vs : List Value) (ds : List (DataW H)) (ps : List MemPlace), (∀ t ∈ ts, P.readableRec t = true ∧ t < P.types.size) → (∀ p ∈ ps, p.block < W.heap.size) →
      DataW.TrodAll enc P W 0 (fun _ => true) true ts vs ds ps → DataW.TrodAll enc P W' 0 (fun b => decide (b < W.heap.size)) true ts vs ds ps := by
  intro ts
  induction ts with
  | nil =>
    intro vs ds ps _ _ h
    obtain ⟨rfl, rfl, rfl⟩ := trodAll_nil h
    exact trodAll_mk0
  | cons t ts ih =>
    intro vs ds ps hts hps h
    obtain ⟨v, vs', d, ds', p, q, rfl, rfl, rfl, h0, h1⟩ := trodAll_cons h
    have ht := hts t (by simp)
    refine trodAll_cons_mk ?_ (ih _ _ _ (fun t' ht' => hts t' (by simp [ht'])) (fun x hx => hps x (by simp [hx])) h1)
    exact Below.trod hl ht.1 ht.2 h0 hb (fun x hx => hps x (by simp [hx]))
theorem law_post {H : Type} {enc : TypeId × Value → H} {P : Program} {fn : Func} {s : ChangeSpec} {W W' : World} {args : Array Value} {ds : List (DataW H)} {before : List MemPlace} {bt : TypeId}
    (hl : laidOutB P = true) (hts : fn.params.toList.all (fun t => P.readableRec t && decide (t < P.types.size)) = true) (hvars : s.vars = [])
    (hW : DataW.Whole enc P fn.params.toList s.vars false W args.toList ds [] before)
    (hres : (s.fn H (ds ++ [])).results = [.lit (.bool true)]) (hargs : (s.fn H (ds ++ [])).args = ds) (hrv : (s.fn H (ds ++ [])).vars = [])
    (hrt : fn.resultTypes = #[bt]) (hbt : P.underlying bt = some .bool) (hb : Below W.heap.size W W') : s.post enc P fn false true false false W args (.bool true) W' := by
  have hW0 := hW
  obtain ⟨p, q, hA, hV, rfl, _, _⟩ := hW
  rw [hvars] at hV
  obtain ⟨_, hq⟩ := trodVars_none hV
  have hlt := hW0.lt
  refine ⟨ds, [], p ++ q, [], p, [], hW0, ?_, ?_, ?_, ?_, fun h => by cases h⟩
  · rw [hres, hrt]
    exact trodAll_mk1 (shut_bool hbt true)
  · rw [hargs]
    exact trodAll_below hl hb _ _ _ _ (fun t ht => by have := List.all_eq_true.1 hts t ht; simpa using this) (fun x hx => hlt x (by simp [hx])) hA
  · rw [hrv, hvars]; rfl
  exact hb.frame _
def Opens (P : Program) (t : TypeId) {α : Type} (R : CRep α) : Prop :=
  ∀ (H : Type) (enc : TypeId × Value → H) (W : World) (fuel : Nat) (cs : List Value) (x : DataW H × List MemPlace), DataW.trod enc P W 0 (fun _ => true) true fuel t cs = some x → ∃ a, R W (LT W.heap.size) cs a
theorem opens_u8 {P : Program} {t : TypeId} (ht : P.underlying t = some (.int .u8)) : Opens P t rU8 := by
  intro H enc W fuel cs x h
  obtain ⟨n, rfl, _, hw⟩ := DataW.trod_int ht h
  have : 0 ≤ n ∧ n ≤ 255 := by simpa [Lit.wf, IntKind.min, IntKind.max, IntKind.signed, IntKind.bits] using hw
  exact ⟨n.toNat, by rw [show ((n.toNat : Nat) : Int) = n by omega], by omega⟩
theorem open_int_arg {P : Program} {t : TypeId} {k : IntKind} {α : Type} {R : CRep α} {H : Type} {enc : TypeId × Value → H} {W : World} {v : Value} {d : DataW H} {p : List MemPlace} {base : Nat} {rc : Reach}
    (ht : P.underlying t = some (.int k)) (hok : Value.okWide P W rc base t v) (ho : Opens P t R) (h : DataW.Trod enc P W 0 (fun _ => true) true t v d p) : ∃ l, R W (LT W.heap.size) [v] l := by
  obtain ⟨n, rfl⟩ := okWide_int ht hok
  obtain ⟨fuel, h⟩ := h
  exact ho H enc W fuel _ _ h
end Go.Proofs.YtokmkopihhnggaaDoor
end
section
/- Arguments that are rationals, opened. -/
namespace Go.Proofs.YtokmkopihhnggaaDoor
open Go.RowKit Go.ChangeShapes Go.WideShapes Go.ChangeAt
end Go.Proofs.YtokmkopihhnggaaDoor
end
section
/- Arguments that are groups of estates, opened as cells. -/
namespace Go.Proofs.YtokmkopihhnggaaDoor
open Go.RowKit Go.ChangeShapes Go.WideShapes Go.ChangeAt Go
def rC {α : Type} (enc : α → List C) (ok : α → Prop) : CRep α := fun W T cs a => denVs (kIn W T W) cs (enc a) ∧ ok a
end Go.Proofs.YtokmkopihhnggaaDoor
end
