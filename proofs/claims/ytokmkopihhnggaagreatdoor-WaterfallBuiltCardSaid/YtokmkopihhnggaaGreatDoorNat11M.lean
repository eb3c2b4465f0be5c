/- natural: divideSmall: walked. -/
import Derived.Test.YtokmkopihhnggaaGreatDoorJfM
import Derived.Shelf.Small.Bits
import Derived.Shelf.Small.Strs
import Derived.Test.YtokmkopihhnggaaGreatDoorProg
import Derived.Deep.CutBlock
import Derived.Deep.DeepCutAuto
set_option linter.unusedVariables false
set_option maxHeartbeats 2000000
set_option maxRecDepth 100000
set_option linter.unusedSimpArgs false
set_option linter.unusedSectionVars false
namespace Go.Proofs.YtokmkopihhnggaaGreatDoor
open Go.RowKit Go.Proofs.Tryz
theorem g9 (r x:Nat) (hr:r<4294967296) (hx:x<4294967296):bits .or .u64 ((r:Int)*4294967296) (x:Int)=((r*4294967296+x:Nat):Int):=by
 have e:(r:Int)*4294967296=((r*2^32:Nat):Int):=by rw [Int.natCast_mul];rfl
 rw [e,u64_or_nat _ _ (by omega) (by omega),Nat.or_comm,tP x r 32 (by omega)]
theorem oV (S : Nat → Prop) (u : Value) (xs : List Nat) (d : Nat) (w : World) (hS : ∀ b, S b → b < w.heap.size) (hl : xs.length ≤ 1000000000000) (hd0 : 0 < d) (hd : d < 4294967296) (hu : aP 1 bk w S [u] xs) :
    Calls prog 212 #[u, .int .u32 d] w fun e w' => ∃ r, e = .returned (.tuple #[r, .int .u32 ((ac xs % d : Nat) : Int)]) ∧ aP 1 bk w' (LT w'.heap.size) [r] (ae (ac xs / d)) ∧ Below w.heap.size w w' := by
  have hxlt := hid (f8 hu)
  obtain ⟨xa, xc, rfl, x1, x2, x3, x4⟩ := aW hu
  have hn := eS x1 x2
  have hmk := fun (w : World) => cE (P := prog) underlying204 Tryz.infoU32 rfl w xs.length (by omega) (by omega)
  go_enter func212, ntmps212
  go_wp2
  clear hmk
  go_loopw [7, 8, 9] (fun r i _ wr => ∃ (k r' : Nat) (o : List Nat) (f : Nat → Value), k ≤ xs.length ∧ i = .int .i64 ((k : Int) - 1) ∧ r = .int .u64 (r' : Int) ∧ r' < d ∧ Below w.heap.size w wr ∧ w.heap.size < wr.heap.size ∧ Own wr w.heap.size 206 xs.length f ∧ Hid (∀ j, f j = .int .u32 ((o.getD j 0 : Nat) : Int)) ∧ Hid (o.length = xs.length) ∧ Hid (∀ x ∈ o, x < 4294967296) ∧
      Hid (ac (xs.drop k) = ac (o.drop k) * d + r')) (fun _ i _ _ => (intOf i + 1).toNat)
  case atStart =>
    refine ⟨xs.length, 0, List.replicate xs.length 0, _, Nat.le_refl _, rfl, rfl, hd0, (Below.refl _ _).alloc (Nat.le_refl _) _, by simp, Own.new _ _ _ _, fun j => ?_, by simp [Hid], fun x hx => ?_, ?_⟩
    · simp [List.getD, List.getElem?_replicate]; split <;> rfl
    · have := List.eq_of_mem_replicate hx; omega
    show ac (xs.drop xs.length) = _
    rw [List.drop_length, List.drop_of_length_le (by simp)]; simp [ac]
  case round =>
    obtain ⟨k, r', o, f, hk, rfl, rfl, hr', hbw, hsz, hown, HF, HL, HD, HV⟩ := hrel
    cases k with
    | zero =>
      have hs := HV.out
      rw [List.drop_zero, List.drop_zero] at hs
      have hq : ac o = ac xs / d := by rw [hs, Nat.mul_comm, Nat.mul_add_div hd0, Nat.div_eq_of_lt hr']; rfl
      have hrm : ac xs % d = r' := by rw [hs, Nat.mul_comm, Nat.mul_add_mod, Nat.mod_eq_of_lt hr']
      have hR := dS hown HF.out HL.out (by omega) HD.out
      have HT := hid (iY _ _ _ _ hR)
      rw [hq] at HT
      have HRM := hid hrm
      clear hs hq hR hrm
      have hr32 : r' < 4294967296 := by omega
      go_wp2_with fail
      refine Calls.mono HT.out ?_
      rintro e' w3 ⟨r, rfl, rfl, hr⟩
      go_wp2
      go_ret2
      exact ⟨r, by rw [HRM.out]; rfl, hr, hbw⟩
    | succ k =>
      rw [show (((k + 1 : Nat) : Int) - 1) = (k : Int) by omega]
      have hlt : k < xs.length := by omega
      rcases x4 with rfl | ⟨b1, off1, rfl, x4⟩
      · simp at hlt
      obtain ⟨g0, g1⟩ := x4.u32 hlt
      rw [← hbw.cell (p := ⟨b1, off1 + k, none⟩) (hS _ x4.1)] at g0
      have c1 := hown.cell hlt
      rw [HF.out k] at c1
      have c2 := hown.frozen k
      have hr32 : r' < 4294967296 := by omega
      obtain ⟨x, hx⟩ : ∃ x, x = xs[k] := ⟨_, rfl⟩
      have HX := hid (show ac (xs.drop k) = x + 4294967296 * ac (xs.drop (k + 1)) by rw [hx, List.drop_eq_getElem_cons hlt]; rfl)
      rw [← hx] at g0 g1
      clear hx
      have o1 := g9 r' x hr32 g1
      obtain ⟨q, hq⟩ : ∃ q : Nat, q = (r' * 4294967296 + x) / d := ⟨_, rfl⟩
      obtain ⟨r2, hr2⟩ : ∃ r2 : Nat, r2 = (r' * 4294967296 + x) % d := ⟨_, rfl⟩
      have hqr : d * q + r2 = r' * 4294967296 + x := by rw [hq, hr2]; exact Nat.div_add_mod _ _
      have hr2d : r2 < d := by rw [hr2]; exact Nat.mod_lt _ hd0
      have hq32 : q < 4294967296 := by
        rw [hq]
        apply Nat.div_lt_of_lt_mul
        have := Nat.mul_le_mul_right 4294967296 (show r' + 1 ≤ d from hr')
        rw [Nat.add_mul] at this
        omega
      have Q1 := hid (show (((r' : Int) * 4294967296 + (x : Int)) / (d : Int)) % 4294967296 = (q : Int) by
        have : ((r' : Int) * 4294967296 + (x : Int)) / (d : Int) = (q : Int) := by rw [hq, Int.natCast_ediv, Int.natCast_add, Int.natCast_mul]; rfl
        rw [this]; omega)
      have Q2 := hid (show (((r' : Int) * 4294967296 + (x : Int)) % (d : Int)) = (r2 : Int) by rw [hr2, Int.natCast_emod, Int.natCast_add, Int.natCast_mul]; rfl)
      have HQR := hid hqr
      clear hq hr2 hqr
      go_wp2
      clear o1
      go_roundw
      case rel =>
        rw [Q1.out, Q2.out]
        have hko : k < o.length := by rw [HL.out]; exact hlt
        refine ⟨k, r2, o.set k q, upd f k (.int .u32 q), by omega, rfl, rfl, hr2d, hbw.setCell (Nat.le_refl _) _, by simpa using hsz, hown.set _ _, jo hko HF.out q, ?_, ?_, ?_⟩
        · show (o.set k q).length = _; simp [HL.out]
        · intro u hu
          rcases List.mem_or_eq_of_mem_set hu with h | h
          · exact HD.out u h
          omega
        show ac (xs.drop k) = ac ((o.set k q).drop k) * d + r2
        have e : (o.set k q).drop k = q :: o.drop (k + 1) := by
          rw [List.drop_eq_getElem_cons (by simpa using hko), List.drop_set_of_lt (by omega)]
          simp
        rw [HX.out, HV.out, e]
        show _ = (q + 4294967296 * ac (o.drop (k + 1))) * d + r2
        have h1 := HQR.out
        rw [Nat.add_mul, Nat.mul_add, Nat.mul_assoc 4294967296, Nat.mul_comm q d]
        omega
      case measure => simp [intOf]
theorem kV (S:Nat->Prop) (u v:Value) (x y:Nat) (w:World) (hS:∀b,S b->b<w.heap.size) (hu:aP 1 bk w S [u] (ae x)) (hv:aP 1 bk w S [v] (ae y)):
  Calls prog 189 #[u,v] w fun e w'=>e= .returned (.int .i64 (bB x y))/\Below w.heap.size w w':=by
 obtain ⟨a,cap,rfl,h1,h2,h3,h4⟩:=aW hu;obtain ⟨a',cap',rfl,h1',h2',h3',h4'⟩:=aW hv;have hn:=eS h1 h2;have hn':=eS h1' h2';rcases Nat.lt_trichotomy (ae x).length (ae y).length with hl|hl|hl
 ·have hR:=hid (fx (eK hl));have hl':((ae x).length !=(ae y).length)=true:=by simp;omega
  have hl2:¬(((ae x).length:Int)=((ae y).length:Int)):=by omega
  go_enter func189,ntmps189
  go_wp2
  go_ret
  exact ⟨b7 hR.out.symm,Below.refl _ _⟩
 ·have HL:=hid hl;rw [←hl];clear hl;go_enter func189,ntmps189
  go_wp2
  go_loopw [5] (fun i wr=>∃k:Nat,k<=(ae x).length/\i= .int .i64 ((k:Int)-1)/\Below w.heap.size w wr/\Hid ((ae x).drop k=(ae y).drop k)) (fun i _=>(intOf i+1).toNat)
  case atStart=>exact ⟨_,Nat.le_refl _,rfl,Below.refl _ _,by show (ae x).drop (ae x).length=(ae y).drop (ae x).length;rw [List.drop_length,HL.out,List.drop_length]⟩
  case round=>
   obtain ⟨k,hk,rfl,hbel,HE⟩:=hrel;cases k with
   |zero=>
    have hxy:x=y:=by
     have:=HE.out;rw [List.drop_zero,List.drop_zero] at this;have:=congrArg ac this;rwa [ao,ao] at this
    have hR:Hid (bB x y=0):=by subst hxy;exact r8 _
    clear hxy;go_wp2
    go_ret
    exact ⟨b7 hR.out.symm,hbel⟩
   |succ k=>
    rw [show (((k+1:Nat):Int)-1)=(k:Int) by omega];have hlt:k<(ae x).length:=by omega
    have hlt':k<(ae y).length:=by have:=HL.out;omega
    rcases h4 with h4|⟨b,off,rfl,h4⟩
    ·rw [h4] at hlt;simp at hlt
    rcases h4' with h4'|⟨b',off',rfl,h4'⟩
    ·rw [h4'] at hlt';simp at hlt'
    obtain ⟨g0,g1⟩:=h4.u32 hlt;rw [←hbel.cell (p:=⟨b,off+k,none⟩) (hS _ h4.1)] at g0;obtain ⟨f0,f1⟩:=h4'.u32 hlt';rw [←hbel.cell (p:=⟨b',off'+k,none⟩) (hS _ h4'.1)] at f0;have HX:=hid (bl x);have HY:=hid (bl y);have HVX:=hid (ao x);have HVY:=hid (ao y);rcases Nat.lt_trichotomy (ae x)[k] (ae y)[k] with hc|hc|hc
    ·have hR:Hid (bB x y= -1):=fx (by rw [←HVX.out,←HVY.out];exact fe HX.out HL.out k hlt hlt' HE.out hc);have q1:(((ae x)[k]:Int) !=((ae y)[k]:Int))=true:=by rw [bne_iff_ne];omega
     have q1':((ae x)[k] !=(ae y)[k])=true:=by rw [bne_iff_ne];omega
     go_wp2
     go_quiet (fail)
     go_wp2
     go_quiet (fail)
     go_wp2
     go_ret
     exact ⟨b7 hR.out.symm,(hbel.drewN _).drewN _⟩
    ·have q1:(((ae x)[k]:Int) !=((ae y)[k]:Int))=false:=by simp [hc]
     have q1':((ae x)[k] !=(ae y)[k])=false:=by simp [hc]
     have HC:=hid hc;clear hc;go_wp2
     go_quiet (fail)
     go_wp2
     go_roundw
     case rel=>exact ⟨k,by omega,rfl,hbel.drewN _,by show (ae x).drop k=(ae y).drop k;rw [List.drop_eq_getElem_cons hlt,List.drop_eq_getElem_cons hlt',HC.out,HE.out]⟩
     case measure=>simp [intOf]
    have hR:Hid (bB x y=1):=kP (by rw [←HVX.out,←HVY.out];exact fe HY.out HL.out.symm k hlt' hlt HE.out.symm hc);have q1:(((ae x)[k]:Int) !=((ae y)[k]:Int))=true:=by rw [bne_iff_ne];omega
    have q1':((ae x)[k] !=(ae y)[k])=true:=by rw [bne_iff_ne];omega
    have q2:¬(ae x)[k]<(ae y)[k]:=by omega
    go_wp2
    go_quiet (fail)
    go_wp2
    go_quiet (fail)
    go_wp2
    go_ret
    exact ⟨b7 hR.out.symm,(hbel.drewN _).drewN _⟩
 have hR:=hid (kP (eK hl));have hl':((ae x).length !=(ae y).length)=true:=by simp;omega
 have hl2:¬(((ae x).length:Int)=((ae y).length:Int)):=by omega
 go_enter func189,ntmps189
 go_wp2
 go_ret
 exact ⟨b7 hR.out.symm,Below.refl _ _⟩
theorem Bq (S : Nat → Prop) (u : Value) (xs : List Nat) (d : Nat) (w : World) (hS : ∀ b, S b → b < w.heap.size) (hl : xs.length ≤ 1000000000000) (hd0 : 0 < d) (hd : d < 4294967296) (hu : aP 1 bk w S [u] xs) :
    Calls prog 234 #[u, .int .u32 d] w fun e w' => ∃ r, e = .returned (.tuple #[r, .int .u32 ((ac xs % d : Nat) : Int)]) ∧ aP 1 bk w' (LT w'.heap.size) [r] (ae (ac xs / d)) ∧ Below w.heap.size w w' := by
  have hxlt := hid (f8 hu)
  obtain ⟨xa, xc, rfl, x1, x2, x3, x4⟩ := aW hu
  have hn := eS x1 x2
  have hmk := fun (w : World) => cE (P := prog) underlying203 Tryz.infoU32 rfl w xs.length (by omega) (by omega)
  go_enter func234, ntmps234
  go_wp2
  clear hmk
  go_loopw [7, 8] (fun r i wr => ∃ (k r' : Nat) (o : List Nat) (f : Nat → Value), k ≤ xs.length ∧ i = .int .i64 ((k : Int) - 1) ∧ r = .int .u64 (r' : Int) ∧ r' < d ∧ Below w.heap.size w wr ∧ w.heap.size < wr.heap.size ∧ Own wr w.heap.size 206 xs.length f ∧ Hid (∀ j, f j = .int .u32 ((o.getD j 0 : Nat) : Int)) ∧ Hid (o.length = xs.length) ∧ Hid (∀ x ∈ o, x < 4294967296) ∧
      Hid (ac (xs.drop k) = ac (o.drop k) * d + r')) (fun _ i _ => (intOf i + 1).toNat)
  case atStart =>
    refine ⟨xs.length, 0, List.replicate xs.length 0, _, Nat.le_refl _, rfl, rfl, hd0, (Below.refl _ _).alloc (Nat.le_refl _) _, by simp, Own.new _ _ _ _, fun j => ?_, by simp [Hid], fun x hx => ?_, ?_⟩
    · simp [List.getD, List.getElem?_replicate]; split <;> rfl
    · have := List.eq_of_mem_replicate hx; omega
    show ac (xs.drop xs.length) = _
    rw [List.drop_length, List.drop_of_length_le (by simp)]; simp [ac]
  case round =>
    obtain ⟨k, r', o, f, hk, rfl, rfl, hr', hbw, hsz, hown, HF, HL, HD, HV⟩ := hrel
    cases k with
    | zero =>
      have hs := HV.out
      rw [List.drop_zero, List.drop_zero] at hs
      have hq : ac o = ac xs / d := by rw [hs, Nat.mul_comm, Nat.mul_add_div hd0, Nat.div_eq_of_lt hr']; rfl
      have hrm : ac xs % d = r' := by rw [hs, Nat.mul_comm, Nat.mul_add_mod, Nat.mod_eq_of_lt hr']
      have hR := dS hown HF.out HL.out (by omega) HD.out
      have HT := hid (fU _ _ _ _ hR)
      rw [hq] at HT
      have HRM := hid hrm
      clear hs hq hR hrm
      have hr32 : r' < 4294967296 := by omega
      go_wp2_with fail
      refine Calls.mono HT.out ?_
      rintro e' w3 ⟨r, rfl, rfl, hr⟩
      go_wp2
      go_ret2
      exact ⟨r, by rw [HRM.out]; rfl, hr, hbw⟩
    | succ k =>
      rw [show (((k + 1 : Nat) : Int) - 1) = (k : Int) by omega]
      have hlt : k < xs.length := by omega
      rcases x4 with rfl | ⟨b1, off1, rfl, x4⟩
      · simp at hlt
      obtain ⟨g0, g1⟩ := x4.u32 hlt
      rw [← hbw.cell (p := ⟨b1, off1 + k, none⟩) (hS _ x4.1)] at g0
      have c1 := hown.cell hlt
      rw [HF.out k] at c1
      have c2 := hown.frozen k
      have hr32 : r' < 4294967296 := by omega
      obtain ⟨x, hx⟩ : ∃ x, x = xs[k] := ⟨_, rfl⟩
      have HX := hid (show ac (xs.drop k) = x + 4294967296 * ac (xs.drop (k + 1)) by rw [hx, List.drop_eq_getElem_cons hlt]; rfl)
      rw [← hx] at g0 g1
      clear hx
      have o1 := g9 r' x hr32 g1
      obtain ⟨q, hq⟩ : ∃ q : Nat, q = (r' * 4294967296 + x) / d := ⟨_, rfl⟩
      obtain ⟨r2, hr2⟩ : ∃ r2 : Nat, r2 = (r' * 4294967296 + x) % d := ⟨_, rfl⟩
      have hqr : d * q + r2 = r' * 4294967296 + x := by rw [hq, hr2]; exact Nat.div_add_mod _ _
      have hr2d : r2 < d := by rw [hr2]; exact Nat.mod_lt _ hd0
      have hq32 : q < 4294967296 := by
        rw [hq]
        apply Nat.div_lt_of_lt_mul
        have := Nat.mul_le_mul_right 4294967296 (show r' + 1 ≤ d from hr')
        rw [Nat.add_mul] at this
        omega
      have Q1 := hid (show (((r' : Int) * 4294967296 + (x : Int)) / (d : Int)) % 4294967296 = (q : Int) by
        have : ((r' : Int) * 4294967296 + (x : Int)) / (d : Int) = (q : Int) := by rw [hq, Int.natCast_ediv, Int.natCast_add, Int.natCast_mul]; rfl
        rw [this]; omega)
      have Q2 := hid (show (((r' : Int) * 4294967296 + (x : Int)) % (d : Int)) = (r2 : Int) by rw [hr2, Int.natCast_emod, Int.natCast_add, Int.natCast_mul]; rfl)
      have HQR := hid hqr
      clear hq hr2 hqr
      go_wp2
      clear o1
      go_roundw
      case rel =>
        rw [Q1.out, Q2.out]
        have hko : k < o.length := by rw [HL.out]; exact hlt
        refine ⟨k, r2, o.set k q, upd f k (.int .u32 q), by omega, rfl, rfl, hr2d, hbw.setCell (Nat.le_refl _) _, by simpa using hsz, hown.set _ _, jo hko HF.out q, ?_, ?_, ?_⟩
        · show (o.set k q).length = _; simp [HL.out]
        · intro u hu
          rcases List.mem_or_eq_of_mem_set hu with h | h
          · exact HD.out u h
          omega
        show ac (xs.drop k) = ac ((o.set k q).drop k) * d + r2
        have e : (o.set k q).drop k = q :: o.drop (k + 1) := by
          rw [List.drop_eq_getElem_cons (by simpa using hko), List.drop_set_of_lt (by omega)]
          simp
        rw [HX.out, HV.out, e]
        show _ = (q + 4294967296 * ac (o.drop (k + 1))) * d + r2
        have h1 := HQR.out
        rw [Nat.add_mul, Nat.mul_add, Nat.mul_assoc 4294967296, Nat.mul_comm q d]
        omega
      case measure => simp [intOf]
theorem Br (u v : Value) (xs ys : List Nat) (w : World) (hx : xs.length ≤ 500000000000) (hy : ys.length ≤ 500000000000) (hu : aP 1 bk w (LT w.heap.size) [u] xs) (hv : aP 1 bk w (LT w.heap.size) [v] ys) :
    Calls prog 187 #[u, v] w fun e w' => ∃ r, e = .returned r ∧ aP 1 bk w' (LT w'.heap.size) [r] (ae (ac xs * ac ys)) ∧ Below w.heap.size w w' := by
  have hbel := Below.refl w.heap.size w
  obtain ⟨pa, pc, rfl, p1, p2, p3, p4⟩ := aW hu
  obtain ⟨qa, qc, rfl, q1, q2, q3, q4⟩ := aW hv
  obtain ⟨n, hn⟩ : ∃ n : Nat, n = xs.length + ys.length := ⟨_, rfl⟩
  have hn1 : (xs.length : Int) + (ys.length : Int) = (n : Int) := by omega
  have hmk := fun (w : World) => cE (P := prog) underlying203 Tryz.infoU32 rfl w n (by omega) (by omega)
  have HN := hid hn
  clear hn
  have hxn : xs.length ≤ 9223372036854775807 := by omega
  have hyn : ys.length ≤ 9223372036854775807 := by omega
  go_enter func187, ntmps187
  go_wp2
  clear hmk hn1
  go_loopw [6, 7, 8] (fun i _ _ wr => ∃ (k : Nat) (o : List Nat) (f : Nat → Value), k ≤ xs.length ∧ i = .int .i64 k ∧ Below w.heap.size w wr ∧ w.heap.size < wr.heap.size ∧ Below w.heap.size w wr ∧ Own wr w.heap.size 206 n f ∧ Hid (∀ j, f j = .int .u32 ((o.getD j 0 : Nat) : Int)) ∧ Hid (o.length = n) ∧ Hid (∀ x ∈ o, x < 4294967296) ∧
      Hid (ac o = ac (xs.take k) * ac ys) ∧ Hid (∀ j, k + ys.length ≤ j → o.getD j 0 = 0)) (fun i _ _ _ => xs.length - (intOf i).toNat)
  case atStart =>
    refine ⟨0, List.replicate n 0, _, Nat.zero_le _, rfl, hbel.alloc hbel.size _, by simp, (Below.refl _ _).alloc (Nat.le_refl _) _, Own.new _ _ _ _, fun j => ?_, by simp [Hid], fun x hx => ?_, ?_, fun j _ => ?_⟩
    · simp [List.getD, List.getElem?_replicate]; split <;> rfl
    · have := List.eq_of_mem_replicate hx; omega
    · show ac _ = ac (xs.take 0) * ac ys; rw [eu]; simp [ac]
    simp [List.getD, List.getElem?_replicate]; split <;> rfl
  case round =>
    obtain ⟨k, o, f, hk, rfl, hbw, hsz, hbw, hown, HF, HL, HD, HV, HZ⟩ := hrel
    by_cases hlt : k < xs.length
    · rcases p4 with rfl | ⟨b1, off1, rfl, p4⟩
      · simp at hlt
      obtain ⟨g0, g1⟩ := p4.u32 hlt
      have hkn : k + ys.length < n := by have := HN.out; omega
      have HT := hid (bx xs k hlt)
      obtain ⟨x, hx⟩ : ∃ x, x = xs[k] := ⟨_, rfl⟩
      rw [← hx] at g0 g1 HT
      clear hx
      have hkn' : (k : Int) < (n : Int) := by omega
      obtain ⟨wo, hwo⟩ : ∃ wo : World, wo = wr := ⟨_, rfl⟩
      subst hwo
      go_wp2
      go_loopw [7, 8] (fun c i wr => ∃ (m c' : Nat) (o' : List Nat) (f : Nat → Value), m ≤ ys.length ∧ i = .int .i64 m ∧ c = .int .u64 (c' : Int) ∧ c' < 4294967296 ∧ Below w.heap.size w wr ∧ w.heap.size < wr.heap.size ∧ Below w.heap.size w wr ∧ Own wr w.heap.size 206 n f ∧ Hid (∀ j, f j = .int .u32 ((o'.getD j 0 : Nat) : Int)) ∧ Hid (o'.length = n) ∧ Hid (∀ x ∈ o', x < 4294967296) ∧
        Hid (ac o' + 4294967296 ^ (k + m) * c' = ac (xs.take k) * ac ys + 4294967296 ^ k * (x * ac (ys.take m))) ∧ Hid (∀ j, k + ys.length ≤ j → o'.getD j 0 = 0)) (fun _ i _ => ys.length - (intOf i).toNat)
      case atStart => exact ⟨0, 0, o, f, Nat.zero_le _, rfl, rfl, by omega, hbw, hsz, hbw, hown, HF, HL, HD, by simp [Hid, ac, HV.out], HZ⟩
      case round =>
        clear hown HF HL HD HV HZ hbw hsz
        obtain ⟨m, c', o', f, hm, rfl, rfl, hc', hbw, hsz, hbw, hown, HF, HL, HD, HV, HZ⟩ := hrel
        by_cases hmlt : m < ys.length
        · rcases q4 with rfl | ⟨b2, off2, rfl, q4⟩
          · simp at hmlt
          obtain ⟨f0, f1⟩ := q4.u32 hmlt
          rw [← hbw.cell (p := ⟨b2, off2 + m, none⟩) q4.1] at f0
          have hp : k + m < n := by omega
          have HT2 := hid (bx ys m hmlt)
          obtain ⟨y, hy⟩ : ∃ y, y = ys[m] := ⟨_, rfl⟩
          rw [← hy] at f0 f1 HT2
          clear hy
          have c1 := hown.cell hp
          rw [HF.out] at c1
          have hpo : k + m < o'.length := by rw [HL.out]; exact hp
          have eo : o'.getD (k + m) 0 = o'[k + m] := by simp [List.getD, hpo]
          have ho : o'[k + m] < 4294967296 := HD.out _ (List.getElem_mem hpo)
          have HS := hid (fun d => cW o' (k + m) d hpo)
          rw [eo] at c1
          obtain ⟨z, hz⟩ : ∃ z, z = o'[k + m] := ⟨_, rfl⟩
          rw [← hz] at c1 ho HS
          have c2 := hown.frozen (k + m)
          clear hz eo
          obtain ⟨d, hd⟩ : ∃ d : Nat, d = (x * y + z + c') % 4294967296 := ⟨_, rfl⟩
          obtain ⟨e, he⟩ : ∃ e : Nat, e = (x * y + z + c') / 4294967296 := ⟨_, rfl⟩
          have hmb := tV g1 f1
          have hde : d + 4294967296 * e = x * y + z + c' := by omega
          have hd1 : d < 4294967296 := by omega
          have he1 : e < 4294967296 := by omega
          have e1 : IntKind.u64.wrap ((x : Int) * (y : Int)) = (x : Int) * (y : Int) := IntWalk.u64_in _ (by rw [← Int.natCast_mul]; omega)
          have e2 : IntKind.u64.wrap ((c' : Int) + (x : Int) * (y : Int)) = (c' : Int) + (x : Int) * (y : Int) := IntWalk.u64_in _ (by rw [← Int.natCast_mul]; omega)
          have e3 : IntKind.u64.wrap ((c' : Int) + (x : Int) * (y : Int) + (z : Int)) = (c' : Int) + (x : Int) * (y : Int) + (z : Int) := IntWalk.u64_in _ (by rw [← Int.natCast_mul]; omega)
          have HDE := hid hde
          have Hd := hid (show ((c' : Int) + (x : Int) * (y : Int) + (z : Int)) % 4294967296 = (d : Int) by rw [← Int.natCast_mul]; omega)
          have He := hid (show ((c' : Int) + (x : Int) * (y : Int) + (z : Int)) / 4294967296 = (e : Int) by rw [← Int.natCast_mul]; omega)
          clear hmb hd he hde
          have gx0 := g0
          rw [← hbw.cell (p := ⟨b1, off1 + k, none⟩) p4.1] at gx0
          go_wp2
          go_quiet (fail)
          go_wp2
          clear e1 e2 e3
          go_roundw
          case rel =>
            rw [Hd.out, He.out]
            refine ⟨m + 1, e, o'.set (k + m) d, upd f (k + m) (.int .u32 d), by omega, by go_num, rfl, he1, (hbw.drewN _).setCell (p := ⟨w.heap.size, _, none⟩) hbel.size _, by simpa using hsz, (hbw.drewN _).setCell (Nat.le_refl _) _, (show Own (World.drewN _ _) _ _ _ _ from hown).set _ _, jo hpo HF.out d, ?_, ?_, ?_, ?_⟩
            · show (o'.set (k + m) d).length = n; simp [HL.out]
            · intro u hu
              rcases List.mem_or_eq_of_mem_set hu with h | h
              · exact HD.out u h
              omega
            · show ac (o'.set (k + m) d) + 4294967296 ^ (k + (m + 1)) * e = _
              have h1 := HV.out
              have h2 := HS.out d
              rw [HT2.out, ← Nat.add_assoc k m 1, Nat.pow_succ, Nat.mul_assoc]
              have h3 : 4294967296 ^ (k + m) * d + 4294967296 ^ (k + m) * (4294967296 * e) = 4294967296 ^ (k + m) * (x * y) + 4294967296 ^ (k + m) * z + 4294967296 ^ (k + m) * c' := by rw [← Nat.mul_add, HDE.out, Nat.mul_add, Nat.mul_add]
              have h4 : 4294967296 ^ k * (x * (ac (ys.take m) + 4294967296 ^ m * y)) = 4294967296 ^ k * (x * ac (ys.take m)) + 4294967296 ^ (k + m) * (x * y) := by
                rw [Nat.mul_add, Nat.mul_add, Nat.pow_add, Nat.mul_assoc (4294967296 ^ k)]
                congr 2
                rw [Nat.mul_left_comm]
              rw [h4]
              omega
            intro j hj
            have := HZ.out j hj
            simpa [List.getD, List.getElem?_set, show ¬ k + m = j by omega] using this
          case measure => simp [intOf]; omega
        have hm' : m = ys.length := by omega
        have hp : k + ys.length < o'.length := by rw [HL.out]; exact hkn
        have c1 := hown.cell hkn
        rw [HF.out] at c1
        have c2 := hown.frozen (k + ys.length)
        have hV2 : ac (o'.set (k + ys.length) c') = ac (xs.take (k + 1)) * ac ys := by
          have h1 := HV.out
          have h2 := cW o' (k + ys.length) c' hp
          have h3 := HZ.out (k + ys.length) (Nat.le_refl _)
          simp only [List.getD, List.getElem?_eq_getElem hp, Option.getD_some] at h3
          rw [h3] at h2
          rw [hm', List.take_length] at h1
          rw [HT.out, Nat.add_mul, Nat.mul_assoc]
          omega
        have HV2 := hid hV2
        clear hV2 hm'
        go_wp2
        go_roundw
        case rel =>
          refine ⟨k + 1, o'.set (k + ys.length) c', upd f (k + ys.length) (.int .u32 c'), by omega, by go_num, hbw.setCell (p := ⟨w.heap.size, _, none⟩) hbel.size _, by simpa using hsz, hbw.setCell (Nat.le_refl _) _, hown.set _ _, jo hp HF.out c', ?_, ?_, HV2.out, ?_⟩
          · show (o'.set _ _).length = n; simp [HL.out]
          · intro u hu
            rcases List.mem_or_eq_of_mem_set hu with h | h
            · exact HD.out u h
            omega
          intro j hj
          have := HZ.out j (by omega)
          simpa [List.getD, List.getElem?_set, show ¬ k + ys.length = j by omega] using this
        case measure => simp [intOf]; omega
    have hs : ac o = ac xs * ac ys := by
      have h1 := HV.out
      rw [List.take_of_length_le (by omega)] at h1
      exact h1
    have HR := hid (fU _ _ o _ (dS hown HF.out HL.out (by have := HN.out; omega) HD.out))
    rw [hs] at HR
    clear hs
    go_wp2_with fail
    refine Calls.mono HR.out ?_
    rintro e' w3 ⟨r, rfl, rfl, hr⟩
    go_wp2
    go_ret
    exact ⟨_, rfl, hr, hbw⟩
theorem iA {P d y x e ld lx ly c':Nat} (h:d+(c'+y)=x+4294967296*e) (hV:ld+ly=lx+P*c'):ld+P*d+(ly+P*y)=lx+P*x+P*4294967296*e:=by
 have h2:P*d+(P*c'+P*y)=P*x+P*4294967296*e:=by rw [←Nat.mul_add,←Nat.mul_add,h,Nat.mul_add,Nat.mul_assoc]
 omega
theorem Bs (S : Nat → Prop) (u v : Value) (x y : Nat) (w : World) (hS : ∀ b, S b → b < w.heap.size) (hl : (ae x).length ≤ 1000000000000) (hyx : y ≤ x) (hu : aP 1 bk w S [u] (ae x)) (hv : aP 1 bk w S [v] (ae y)) :
    Calls prog 190 #[u, v] w fun e w' => ∃ r, e = .returned r ∧ aP 1 bk w' (LT w'.heap.size) [r] (ae (x - y)) ∧ Below w.heap.size w w' := by
  have hxlt := hid (bl x)
  have hylt := hid (bl y)
  have vx := hid (ao x)
  have vy := hid (ao y)
  have hylen : (ae y).length ≤ (ae x).length := by
    rcases Nat.lt_or_ge (ae x).length (ae y).length with h | h
    · have := eK h; omega
    exact h
  obtain ⟨xa, xc, rfl, x1, x2, x3, x4⟩ := aW hu
  obtain ⟨ya, yc, rfl, y1, y2, y3, y4⟩ := aW hv
  generalize ae x = xs at *
  generalize ae y = ys at *
  have hn := eS x1 x2
  have hmk := fun (w : World) => cE (P := prog) underlying203 Tryz.infoU32 rfl w xs.length (by omega) (by omega)
  go_enter func190, ntmps190
  go_wp2
  clear hmk
  go_loopw [6, 7, 8, 9] (fun c i _ _ wr => ∃ (k c' : Nat) (ds : List Nat) (f : Nat → Value), k ≤ xs.length ∧ i = .int .i64 k ∧ c = .int .u64 (c' : Int) ∧ Hid (c' ≤ 1) ∧ Below w.heap.size w wr ∧ w.heap.size < wr.heap.size ∧ Own wr w.heap.size 206 xs.length f ∧ Hid (∀ j, f j = .int .u32 ((ds.getD j 0 : Nat) : Int)) ∧ Hid (ds.length = k) ∧ Hid (∀ x ∈ ds, x < 4294967296) ∧
      Hid (ac ds + ac (ys.take k) = ac (xs.take k) + 4294967296 ^ k * c')) (fun _ i _ _ _ => xs.length - (intOf i).toNat)
  case atStart => exact ⟨0, 0, [], _, Nat.zero_le _, rfl, rfl, by show 0 ≤ 1; omega, (Below.refl _ _).alloc (Nat.le_refl _) _, by simp, Own.new _ _ _ _, fun j => by simp, rfl, fun x hx => by simp at hx, by simp [Hid, ac]⟩
  case round =>
    obtain ⟨k, c', ds, f, hk, rfl, rfl, hc', hbw, hsz, hown, HF, HL, HD, HV⟩ := hrel
    by_cases hlt : k < xs.length
    · rcases x4 with rfl | ⟨b1, off1, rfl, x4⟩
      · simp at hlt
      obtain ⟨g0, g1⟩ := x4.u32 hlt
      rw [← hbw.cell (p := ⟨b1, off1 + k, none⟩) (hS _ x4.1)] at g0
      have c1 := hown.cell hlt
      rw [HF.out k] at c1
      have c2 := hown.frozen k
      have e1 := bL xs k
      have e2 := bL ys k
      have ex : xs.getD k 0 = xs[k] := by simp [List.getD, hlt]
      rw [ex] at e1
      obtain ⟨X, hX⟩ : ∃ X, X = xs[k] := ⟨_, rfl⟩
      rw [← hX] at e1 g0 g1
      have E1 := hid e1
      clear e1 ex hX
      by_cases hy : k < ys.length
      · rcases y4 with rfl | ⟨b2, off2, rfl, y4⟩
        · simp at hy
        obtain ⟨f0, f1⟩ := y4.u32 hy
        rw [← hbw.cell (p := ⟨b2, off2 + k, none⟩) (hS _ y4.1)] at f0
        have ey : ys.getD k 0 = ys[k] := by simp [List.getD, hy]
        rw [ey] at e2
        obtain ⟨yk, hyk⟩ : ∃ X, X = ys[k] := ⟨_, rfl⟩
        rw [← hyk] at e2 f0 f1
        have E2 := hid e2
        obtain ⟨Y, hY⟩ : ∃ Y, Y = c' + yk := ⟨_, rfl⟩
        have q1 : IntKind.u64.wrap ((c' : Int) + (yk : Int)) = (Y : Int) := by
          rw [show (c' : Int) + (yk : Int) = (Y : Int) by omega]; exact IntWalk.u64_in _ (by have := hc'.out; omega)
        clear ey e2 hyk
        by_cases hc : X < Y
        · obtain ⟨X2, hX2⟩ : ∃ X2, X2 = X + 4294967296 := ⟨_, rfl⟩
          obtain ⟨d, hd⟩ : ∃ d, d = X2 - Y := ⟨_, rfl⟩
          have hd1 : d < 4294967296 := by omega
          have q2 : IntKind.u64.wrap ((X : Int) + 4294967296) = (X2 : Int) := by
            rw [show (X : Int) + 4294967296 = (X2 : Int) by omega]; exact IntWalk.u64_in _ (by omega)
          have q3 : IntKind.u64.wrap ((X2 : Int) - (Y : Int)) = (d : Int) := by
            rw [show (X2 : Int) - (Y : Int) = (d : Int) by have := hc'.out; omega]; exact IntWalk.u64_in _ (by omega)
          have q4 : (d : Int) % 4294967296 = (d : Int) := by omega
          have HDE := hid (show d + (c' + yk) = X + 4294967296 * 1 by have := hc'.out; omega)
          have HD1 := hid hd1
          clear hd hY hX2 hd1
          go_wp2
          clear q1 q2 q3 q4
          go_roundw
          case rel =>
            refine ⟨k + 1, 1, ds ++ [d], upd f k (.int .u32 d), by omega, by go_num, rfl, by show _ ≤ 1; omega, hbw.setCell (Nat.le_refl _) _, by simpa using hsz, hown.set _ _, dY HL.out HF.out d, ?_, ?_, ?_⟩
            · show (ds ++ [d]).length = k + 1; simp [HL.out]
            · intro x hx; rcases List.mem_append.1 hx with h | h
              · exact HD.out x h
              simp at h; have := HD1.out; omega
            show ac (ds ++ [d]) + ac (ys.take (k + 1)) = ac (xs.take (k + 1)) + 4294967296 ^ (k + 1) * 1
            rw [aR, HL.out, E1.out, E2.out, Nat.pow_succ]
            exact iA HDE.out HV.out
          case measure => simp [intOf]; omega
        obtain ⟨d, hd⟩ : ∃ d, d = X - Y := ⟨_, rfl⟩
        have hd1 : d < 4294967296 := by omega
        have q3 : IntKind.u64.wrap ((X : Int) - (Y : Int)) = (d : Int) := by
          rw [show (X : Int) - (Y : Int) = (d : Int) by omega]; exact IntWalk.u64_in _ (by omega)
        have q4 : (d : Int) % 4294967296 = (d : Int) := by omega
        have HDE := hid (show d + (c' + yk) = X + 4294967296 * 0 by omega)
        have HD1 := hid hd1
        clear hd hY hd1
        go_wp2
        clear q1 q3 q4
        go_roundw
        case rel =>
          refine ⟨k + 1, 0, ds ++ [d], upd f k (.int .u32 d), by omega, by go_num, rfl, by show _ ≤ 1; omega, hbw.setCell (Nat.le_refl _) _, by simpa using hsz, hown.set _ _, dY HL.out HF.out d, ?_, ?_, ?_⟩
          · show (ds ++ [d]).length = k + 1; simp [HL.out]
          · intro x hx; rcases List.mem_append.1 hx with h | h
            · exact HD.out x h
            simp at h; have := HD1.out; omega
          show ac (ds ++ [d]) + ac (ys.take (k + 1)) = ac (xs.take (k + 1)) + 4294967296 ^ (k + 1) * 0
          rw [aR, HL.out, E1.out, E2.out, Nat.pow_succ]
          exact iA HDE.out HV.out
        case measure => simp [intOf]; omega
      have ey : ys.getD k 0 = 0 := by simp [List.getD, List.getElem?_eq_none (by omega : ys.length ≤ k)]
      rw [ey] at e2
      have f1 : 0 < 4294967296 := by decide
      have E2 := hid e2
      have hY : c' = c' + 0 := rfl
      clear ey e2
      by_cases hc : X < c'
      · obtain ⟨X2, hX2⟩ : ∃ X2, X2 = X + 4294967296 := ⟨_, rfl⟩
        obtain ⟨d, hd⟩ : ∃ d, d = X2 - c' := ⟨_, rfl⟩
        have hd1 : d < 4294967296 := by omega
        have q2 : IntKind.u64.wrap ((X : Int) + 4294967296) = (X2 : Int) := by
          rw [show (X : Int) + 4294967296 = (X2 : Int) by omega]; exact IntWalk.u64_in _ (by omega)
        have q3 : IntKind.u64.wrap ((X2 : Int) - (c' : Int)) = (d : Int) := by
          rw [show (X2 : Int) - (c' : Int) = (d : Int) by have := hc'.out; omega]; exact IntWalk.u64_in _ (by omega)
        have q4 : (d : Int) % 4294967296 = (d : Int) := by omega
        have HDE := hid (show d + (c' + 0) = X + 4294967296 * 1 by have := hc'.out; omega)
        have HD1 := hid hd1
        clear hd hY hX2 hd1
        go_wp2
        clear q2 q3 q4
        go_roundw
        case rel =>
          refine ⟨k + 1, 1, ds ++ [d], upd f k (.int .u32 d), by omega, by go_num, rfl, by show _ ≤ 1; omega, hbw.setCell (Nat.le_refl _) _, by simpa using hsz, hown.set _ _, dY HL.out HF.out d, ?_, ?_, ?_⟩
          · show (ds ++ [d]).length = k + 1; simp [HL.out]
          · intro x hx; rcases List.mem_append.1 hx with h | h
            · exact HD.out x h
            simp at h; have := HD1.out; omega
          show ac (ds ++ [d]) + ac (ys.take (k + 1)) = ac (xs.take (k + 1)) + 4294967296 ^ (k + 1) * 1
          rw [aR, HL.out, E1.out, E2.out, Nat.pow_succ]
          exact iA HDE.out HV.out
        case measure => simp [intOf]; omega
      obtain ⟨d, hd⟩ : ∃ d, d = X - c' := ⟨_, rfl⟩
      have hd1 : d < 4294967296 := by omega
      have q3 : IntKind.u64.wrap ((X : Int) - (c' : Int)) = (d : Int) := by
        rw [show (X : Int) - (c' : Int) = (d : Int) by omega]; exact IntWalk.u64_in _ (by omega)
      have q4 : (d : Int) % 4294967296 = (d : Int) := by omega
      have HDE := hid (show d + (c' + 0) = X + 4294967296 * 0 by omega)
      have HD1 := hid hd1
      clear hd hY hd1
      go_wp2
      clear q3 q4
      go_roundw
      case rel =>
        refine ⟨k + 1, 0, ds ++ [d], upd f k (.int .u32 d), by omega, by go_num, rfl, by show _ ≤ 1; omega, hbw.setCell (Nat.le_refl _) _, by simpa using hsz, hown.set _ _, dY HL.out HF.out d, ?_, ?_, ?_⟩
        · show (ds ++ [d]).length = k + 1; simp [HL.out]
        · intro x hx; rcases List.mem_append.1 hx with h | h
          · exact HD.out x h
          simp at h; have := HD1.out; omega
        show ac (ds ++ [d]) + ac (ys.take (k + 1)) = ac (xs.take (k + 1)) + 4294967296 ^ (k + 1) * 0
        rw [aR, HL.out, E1.out, E2.out, Nat.pow_succ]
        exact iA HDE.out HV.out
      case measure => simp [intOf]; omega
    have hk' : k = xs.length := by omega
    have hs : ac ds = x - y := by
      have h1 := HV.out
      rw [List.take_of_length_le (by omega), List.take_of_length_le (by omega), vx.out, vy.out] at h1
      have h2 := a7 HD.out
      rw [HL.out] at h2
      have : c' = 0 ∨ c' = 1 := by have := hc'.out; omega
      rcases this with h | h
      · subst h; omega
      subst h; omega
    have hR := dS hown HF.out (by rw [HL.out, hk']) (by omega) HD.out
    have HT := hid (fU _ _ _ _ hR)
    rw [hs] at HT
    clear hs hk' hR
    go_wp2_with fail
    refine Calls.mono HT.out ?_
    rintro e' w3 ⟨r, rfl, rfl, hr⟩
    go_wp2
    go_ret
    exact ⟨_, rfl, hr, hbw⟩
theorem jp {P d X Y e ld lx ly c':Nat} (h:d+4294967296*e=c'+X+Y) (hV:ld+P*c'=lx+ly):ld+P*d+P*4294967296*e=lx+P*X+(ly+P*Y):=by
 have h2:P*d+P*4294967296*e=P*c'+P*X+P*Y:=by rw [Nat.mul_assoc,←Nat.mul_add,h,Nat.mul_add,Nat.mul_add]
 omega
theorem se {x k:Nat} (h:k<(ae x).length):4294967296^k<=x:=by
 rcases Nat.lt_or_ge x (4294967296^k) with h1|h1
 ·have:=bZ h1;omega
 exact h1
theorem xX {ds:List Nat} {v k:Nat} (hk:ds.length=k) (hd:∀x∈ds,x<4294967296) (hv:ac ds=v) (h:k=0∨4294967296^(k-1)<=v):ae v=ds:=by
 have h1:=a7 hd;rw [hv,hk] at h1;have h2:=bZ h1;have h3:(ae v).length=k:=by
  rcases h with h|h
  ·omega
  have:=j7 h;omega
 have a:=j8 hd;have b:=j8 (bl v);rw [ao,h3] at b;rw [hk,hv] at a;rw [←a,←b]
theorem CL (S : Nat → Prop) (u v : Value) (x y : Nat) (w : World) (hS : ∀ b, S b → b < w.heap.size) (hl : (ae x).length ≤ 1000000000000) (hl2 : (ae y).length ≤ 1000000000000) (hu : aP 1 bk w S [u] (ae x)) (hv : aP 1 bk w S [v] (ae y)) :
    Calls prog 188 #[u, v] w fun e w' => ∃ r, e = .returned r ∧ aP 1 bk w' (LT w'.heap.size) [r] (ae (x + y)) ∧ Below w.heap.size w w' := by
  have vx := hid (ao x)
  have vy := hid (ao y)
  have HPx := hid (fun k (h : k < (ae x).length) => se h)
  have HPy := hid (fun k (h : k < (ae y).length) => se h)
  obtain ⟨xa, xc, rfl, x1, x2, x3, x4⟩ := aW hu
  obtain ⟨ya, yc, rfl, y1, y2, y3, y4⟩ := aW hv
  generalize ae x = xs at *
  generalize ae y = ys at *
  have hn := eS x1 x2
  have hn' := eS y1 y2
  go_enter func188, ntmps188
  go_wp2
  go_loopw [5, 6, 7] (fun p c i wr => ∃ (k c' : Nat) (ds : List Nat), Hid (k ≤ xs.length + ys.length + 1) ∧ i = .int .i64 k ∧ c = .int .u64 (c' : Int) ∧ c' ≤ 1 ∧ Below w.heap.size w wr ∧ rGrow 206 1 bk w.heap.size wr p ds ∧ Hid (ds.length = k) ∧ Hid (∀ x ∈ ds, x < 4294967296) ∧
      Hid (ac ds + 4294967296 ^ k * c' = ac (xs.take k) + ac (ys.take k)) ∧ Hid (k = 0 ∨ 4294967296 ^ (k - 1) ≤ x + y) ∧ Hid (c' = 0 ∨ k ≤ xs.length ∨ k ≤ ys.length)) (fun _ _ i _ => xs.length + ys.length + 1 - (intOf i).toNat)
  case atStart => exact ⟨0, 0, [], Nat.zero_le _, rfl, rfl, by omega, Below.refl _ _, rGrow.nil _ _ _ _ _, rfl, fun x hx => by simp at hx, by simp [Hid, ac], .inl rfl, .inl rfl⟩
  case round =>
    obtain ⟨k, c', ds, HK, rfl, rfl, hc', hbw, hg, HL, HD, HV, HT, HC⟩ := hrel
    have hkb : k ≤ 2000000000001 := by have := HK.out; omega
    have e1 := bL xs k
    have e2 := bL ys k
    have hsz := hbw.size
    by_cases ha : k < xs.length
    · by_cases hb : k < ys.length
      · rcases x4 with rfl | ⟨b1, off1, rfl, x4⟩
        · simp at ha
        obtain ⟨g0, g1⟩ := x4.u32 ha
        rw [← hbw.cell (p := ⟨b1, off1 + k, none⟩) (hS _ x4.1)] at g0
        have ex : xs.getD k 0 = xs[k] := by simp [List.getD, ha]
        rw [ex] at e1
        obtain ⟨X, hX⟩ : ∃ X, X = xs[k] := ⟨_, rfl⟩
        rw [← hX] at e1 g0 g1
        clear ex hX
        rcases y4 with rfl | ⟨b2, off2, rfl, y4⟩
        · simp at hb
        obtain ⟨f0, f1⟩ := y4.u32 hb
        rw [← hbw.cell (p := ⟨b2, off2 + k, none⟩) (hS _ y4.1)] at f0
        have ey : ys.getD k 0 = ys[k] := by simp [List.getD, hb]
        rw [ey] at e2
        obtain ⟨Y, hY⟩ : ∃ X, X = ys[k] := ⟨_, rfl⟩
        rw [← hY] at e2 f0 f1
        clear ey hY
        have E1 := hid e1
        have E2 := hid e2
        clear e1 e2
        obtain ⟨T, hT⟩ : ∃ T, T = c' + X + Y := ⟨_, rfl⟩
        obtain ⟨d, hd⟩ : ∃ d, d = T % 4294967296 := ⟨_, rfl⟩
        obtain ⟨e, he⟩ : ∃ e, e = T / 4294967296 := ⟨_, rfl⟩
        obtain ⟨T1, hT1⟩ : ∃ T, T = c' + X := ⟨_, rfl⟩
        have q1 : IntKind.u64.wrap ((c' : Int) + (X : Int)) = (T1 : Int) := by
          rw [show (c' : Int) + (X : Int) = (T1 : Int) by omega]; exact IntWalk.u64_in _ (by omega)
        have q2 : IntKind.u64.wrap ((T1 : Int) + (Y : Int)) = (T : Int) := by
          rw [show (T1 : Int) + (Y : Int) = (T : Int) by omega]; exact IntWalk.u64_in _ (by omega)
        have hd1 : d < 4294967296 := by omega
        have he1 : e ≤ 1 := by omega
        have q4 : (T : Int) % 4294967296 = (d : Int) := by omega
        have q5 : (T : Int) / 4294967296 = (e : Int) := by omega
        have HDE := hid (show d + 4294967296 * e = c' + X + Y by omega)
        have HK1 := hid (show k + 1 ≤ xs.length + ys.length + 1 by omega)
        have HD1 := hid hd1
        have HEB := hid he1
        have hg2 := hg.kept aV ((Below.refl _ _).alloc (Nat.le_refl _) (.cells #[.int .u32 (d : Int)] 206))
        have hy : bk (wr.alloc (.cells #[.int .u32 (d : Int)] 206)) (fT (wr.alloc (.cells #[.int .u32 (d : Int)] 206)) u5) [.int .u32 (d : Int)] d := ⟨rfl, hd1⟩
        clear hT hd he hT1 hd1 he1 hc'
        go_wp2_with (at_builtin; refine iz _ rfl _ _ 203 rfl aV w.heap.size 206 1 4 _ underlying203 Tryz.infoU32 rfl (by omega) _ ds rfl hg2 ?hbase ?hbytes ?h63 wr.heap.size 1 [.int .u32 (d : Int)] rfl rfl ?hb rfl d hy ?_)
        case hbase => simp; omega
        case hbytes => rw [HL.out]; omega
        case h63 => rw [HL.out]; omega
        case hb => exact ⟨(0, 0), heap_alloc_new _ _⟩
        intro v' w' hg' hgr hbel'
        have hbel2 : Below w.heap.size w w' := (hbw.alloc hsz _).trans hbel'
        clear hy hg2 hg hbel' hgr
        go_wp2
        clear q1 q2 q4 q5
        go_roundw
        case rel =>
          refine ⟨k + 1, e, ds ++ [d], HK1, by go_num, rfl, HEB.out, hbel2, hg', ?_, ?_, ?_, ?_, .inr (.inl ha)⟩
          · show (ds ++ [d]).length = k + 1; simp [HL.out]
          · intro x hx; rcases List.mem_append.1 hx with h | h
            · exact HD.out x h
            simp at h; have := HD1.out; omega
          · show ac (ds ++ [d]) + 4294967296 ^ (k + 1) * e = ac (xs.take (k + 1)) + ac (ys.take (k + 1))
            rw [aR, HL.out, E1.out, E2.out, Nat.pow_succ]
            exact jp HDE.out HV.out
          exact .inr (Nat.le_trans (HPx.out k ha) (Nat.le_add_right _ _))
        case measure => have := HK1.out; simp [intOf]; omega
      rcases x4 with rfl | ⟨b1, off1, rfl, x4⟩
      · simp at ha
      obtain ⟨g0, g1⟩ := x4.u32 ha
      rw [← hbw.cell (p := ⟨b1, off1 + k, none⟩) (hS _ x4.1)] at g0
      have ex : xs.getD k 0 = xs[k] := by simp [List.getD, ha]
      rw [ex] at e1
      obtain ⟨X, hX⟩ : ∃ X, X = xs[k] := ⟨_, rfl⟩
      rw [← hX] at e1 g0 g1
      clear ex hX
      have ey : ys.getD k 0 = 0 := by simp [List.getD, List.getElem?_eq_none (by omega : ys.length ≤ k)]
      rw [ey] at e2
      clear ey
      have f1 : 0 < 4294967296 := by decide
      have E1 := hid e1
      have E2 := hid e2
      clear e1 e2
      obtain ⟨T, hT⟩ : ∃ T, T = c' + X + 0 := ⟨_, rfl⟩
      obtain ⟨d, hd⟩ : ∃ d, d = T % 4294967296 := ⟨_, rfl⟩
      obtain ⟨e, he⟩ : ∃ e, e = T / 4294967296 := ⟨_, rfl⟩
      have q1 : IntKind.u64.wrap ((c' : Int) + (X : Int)) = (T : Int) := by
        rw [show (c' : Int) + (X : Int) = (T : Int) by omega]; exact IntWalk.u64_in _ (by omega)
      have hd1 : d < 4294967296 := by omega
      have he1 : e ≤ 1 := by omega
      have q4 : (T : Int) % 4294967296 = (d : Int) := by omega
      have q5 : (T : Int) / 4294967296 = (e : Int) := by omega
      have HDE := hid (show d + 4294967296 * e = c' + X + 0 by omega)
      have HK1 := hid (show k + 1 ≤ xs.length + ys.length + 1 by omega)
      have HD1 := hid hd1
      have HEB := hid he1
      have hg2 := hg.kept aV ((Below.refl _ _).alloc (Nat.le_refl _) (.cells #[.int .u32 (d : Int)] 206))
      have hy : bk (wr.alloc (.cells #[.int .u32 (d : Int)] 206)) (fT (wr.alloc (.cells #[.int .u32 (d : Int)] 206)) u5) [.int .u32 (d : Int)] d := ⟨rfl, hd1⟩
      clear hT hd he hd1 he1 hc'
      go_wp2_with (at_builtin; refine iz _ rfl _ _ 203 rfl aV w.heap.size 206 1 4 _ underlying203 Tryz.infoU32 rfl (by omega) _ ds rfl hg2 ?hbase ?hbytes ?h63 wr.heap.size 1 [.int .u32 (d : Int)] rfl rfl ?hb rfl d hy ?_)
      case hbase => simp; omega
      case hbytes => rw [HL.out]; omega
      case h63 => rw [HL.out]; omega
      case hb => exact ⟨(0, 0), heap_alloc_new _ _⟩
      intro v' w' hg' hgr hbel'
      have hbel2 : Below w.heap.size w w' := (hbw.alloc hsz _).trans hbel'
      clear hy hg2 hg hbel' hgr
      go_wp2
      clear q1 q4 q5
      go_roundw
      case rel =>
        refine ⟨k + 1, e, ds ++ [d], HK1, by go_num, rfl, HEB.out, hbel2, hg', ?_, ?_, ?_, ?_, .inr (.inl ha)⟩
        · show (ds ++ [d]).length = k + 1; simp [HL.out]
        · intro x hx; rcases List.mem_append.1 hx with h | h
          · exact HD.out x h
          simp at h; have := HD1.out; omega
        · show ac (ds ++ [d]) + 4294967296 ^ (k + 1) * e = ac (xs.take (k + 1)) + ac (ys.take (k + 1))
          rw [aR, HL.out, E1.out, E2.out, Nat.pow_succ]
          exact jp HDE.out HV.out
        exact .inr (Nat.le_trans (HPx.out k ha) (Nat.le_add_right _ _))
      case measure => have := HK1.out; simp [intOf]; omega
    by_cases hb : k < ys.length
    · have ex : xs.getD k 0 = 0 := by simp [List.getD, List.getElem?_eq_none (by omega : xs.length ≤ k)]
      rw [ex] at e1
      clear ex
      have g1 : 0 < 4294967296 := by decide
      rcases y4 with rfl | ⟨b2, off2, rfl, y4⟩
      · simp at hb
      obtain ⟨f0, f1⟩ := y4.u32 hb
      rw [← hbw.cell (p := ⟨b2, off2 + k, none⟩) (hS _ y4.1)] at f0
      have ey : ys.getD k 0 = ys[k] := by simp [List.getD, hb]
      rw [ey] at e2
      obtain ⟨Y, hY⟩ : ∃ X, X = ys[k] := ⟨_, rfl⟩
      rw [← hY] at e2 f0 f1
      clear ey hY
      have E1 := hid e1
      have E2 := hid e2
      clear e1 e2
      obtain ⟨T, hT⟩ : ∃ T, T = c' + 0 + Y := ⟨_, rfl⟩
      obtain ⟨d, hd⟩ : ∃ d, d = T % 4294967296 := ⟨_, rfl⟩
      obtain ⟨e, he⟩ : ∃ e, e = T / 4294967296 := ⟨_, rfl⟩
      have q1 : IntKind.u64.wrap ((c' : Int) + (Y : Int)) = (T : Int) := by
        rw [show (c' : Int) + (Y : Int) = (T : Int) by omega]; exact IntWalk.u64_in _ (by omega)
      have hd1 : d < 4294967296 := by omega
      have he1 : e ≤ 1 := by omega
      have q4 : (T : Int) % 4294967296 = (d : Int) := by omega
      have q5 : (T : Int) / 4294967296 = (e : Int) := by omega
      have HDE := hid (show d + 4294967296 * e = c' + 0 + Y by omega)
      have HK1 := hid (show k + 1 ≤ xs.length + ys.length + 1 by omega)
      have HD1 := hid hd1
      have HEB := hid he1
      have hg2 := hg.kept aV ((Below.refl _ _).alloc (Nat.le_refl _) (.cells #[.int .u32 (d : Int)] 206))
      have hy : bk (wr.alloc (.cells #[.int .u32 (d : Int)] 206)) (fT (wr.alloc (.cells #[.int .u32 (d : Int)] 206)) u5) [.int .u32 (d : Int)] d := ⟨rfl, hd1⟩
      clear hT hd he hd1 he1 hc'
      go_wp2_with (at_builtin; refine iz _ rfl _ _ 203 rfl aV w.heap.size 206 1 4 _ underlying203 Tryz.infoU32 rfl (by omega) _ ds rfl hg2 ?hbase ?hbytes ?h63 wr.heap.size 1 [.int .u32 (d : Int)] rfl rfl ?hb rfl d hy ?_)
      case hbase => simp; omega
      case hbytes => rw [HL.out]; omega
      case h63 => rw [HL.out]; omega
      case hb => exact ⟨(0, 0), heap_alloc_new _ _⟩
      intro v' w' hg' hgr hbel'
      have hbel2 : Below w.heap.size w w' := (hbw.alloc hsz _).trans hbel'
      clear hy hg2 hg hbel' hgr
      go_wp2
      clear q1 q4 q5
      go_roundw
      case rel =>
        refine ⟨k + 1, e, ds ++ [d], HK1, by go_num, rfl, HEB.out, hbel2, hg', ?_, ?_, ?_, ?_, .inr (.inr hb)⟩
        · show (ds ++ [d]).length = k + 1; simp [HL.out]
        · intro x hx; rcases List.mem_append.1 hx with h | h
          · exact HD.out x h
          simp at h; have := HD1.out; omega
        · show ac (ds ++ [d]) + 4294967296 ^ (k + 1) * e = ac (xs.take (k + 1)) + ac (ys.take (k + 1))
          rw [aR, HL.out, E1.out, E2.out, Nat.pow_succ]
          exact jp HDE.out HV.out
        exact .inr (Nat.le_trans (HPy.out k hb) (Nat.le_add_left _ _))
      case measure => have := HK1.out; simp [intOf]; omega
    have ex : xs.getD k 0 = 0 := by simp [List.getD, List.getElem?_eq_none (by omega : xs.length ≤ k)]
    rw [ex] at e1
    clear ex
    have g1 : 0 < 4294967296 := by decide
    have ey : ys.getD k 0 = 0 := by simp [List.getD, List.getElem?_eq_none (by omega : ys.length ≤ k)]
    rw [ey] at e2
    clear ey
    have f1 : 0 < 4294967296 := by decide
    by_cases hc : 0 < c'
    · skip
      have E1 := hid e1
      have E2 := hid e2
      clear e1 e2
      obtain ⟨T, hT⟩ : ∃ T, T = c' + 0 + 0 := ⟨_, rfl⟩
      obtain ⟨d, hd⟩ : ∃ d, d = T % 4294967296 := ⟨_, rfl⟩
      obtain ⟨e, he⟩ : ∃ e, e = T / 4294967296 := ⟨_, rfl⟩
      have hTc : c' = T := by omega
      subst hTc
      have hd1 : d < 4294967296 := by omega
      have he1 : e ≤ 1 := by omega
      have q4 : (c' : Int) % 4294967296 = (d : Int) := by omega
      have q5 : (c' : Int) / 4294967296 = (e : Int) := by omega
      have HDE := hid (show d + 4294967296 * e = c' + 0 + 0 by omega)
      have HP := hid (show 4294967296 ^ k ≤ x + y by
        have h1 := HV.out
        rw [List.take_of_length_le (by omega), List.take_of_length_le (by omega), vx.out, vy.out] at h1
        have := Nat.mul_le_mul_left (4294967296 ^ k) hc
        omega)
      have HE0 := hid (show e = 0 by omega)
      have HK1 := hid (show k + 1 ≤ xs.length + ys.length + 1 by have := HC.out; omega)
      have HD1 := hid hd1
      have HEB := hid he1
      have hg2 := hg.kept aV ((Below.refl _ _).alloc (Nat.le_refl _) (.cells #[.int .u32 (d : Int)] 206))
      have hy : bk (wr.alloc (.cells #[.int .u32 (d : Int)] 206)) (fT (wr.alloc (.cells #[.int .u32 (d : Int)] 206)) u5) [.int .u32 (d : Int)] d := ⟨rfl, hd1⟩
      clear hT hd he hd1 he1 hc'
      go_wp2_with (at_builtin; refine iz _ rfl _ _ 203 rfl aV w.heap.size 206 1 4 _ underlying203 Tryz.infoU32 rfl (by omega) _ ds rfl hg2 ?hbase ?hbytes ?h63 wr.heap.size 1 [.int .u32 (d : Int)] rfl rfl ?hb rfl d hy ?_)
      case hbase => simp; omega
      case hbytes => rw [HL.out]; omega
      case h63 => rw [HL.out]; omega
      case hb => exact ⟨(0, 0), heap_alloc_new _ _⟩
      intro v' w' hg' hgr hbel'
      have hbel2 : Below w.heap.size w w' := (hbw.alloc hsz _).trans hbel'
      clear hy hg2 hg hbel' hgr
      go_wp2
      clear q4 q5
      go_roundw
      case rel =>
        refine ⟨k + 1, e, ds ++ [d], HK1, by go_num, rfl, HEB.out, hbel2, hg', ?_, ?_, ?_, ?_, .inl HE0.out⟩
        · show (ds ++ [d]).length = k + 1; simp [HL.out]
        · intro x hx; rcases List.mem_append.1 hx with h | h
          · exact HD.out x h
          simp at h; have := HD1.out; omega
        · show ac (ds ++ [d]) + 4294967296 ^ (k + 1) * e = ac (xs.take (k + 1)) + ac (ys.take (k + 1))
          rw [aR, HL.out, E1.out, E2.out, Nat.pow_succ]
          exact jp HDE.out HV.out
        exact .inr HP.out
      case measure => have := HK1.out; simp [intOf]; omega
    have hs : ac ds = x + y := by
      have h1 := HV.out
      have : c' = 0 := by omega
      subst this
      rw [List.take_of_length_le (by omega), List.take_of_length_le (by omega), vx.out, vy.out, Nat.mul_zero] at h1
      exact h1
    have hR := hg.slice aV
    have hE := xX HL.out HD.out hs HT.out
    rw [← hE] at hR
    have hc0 : c' = 0 := by omega
    subst hc0
    clear hs hg hE
    go_wp2
    go_ret
    exact ⟨_, rfl, hR, hbw⟩
theorem Ib (x:Nat) (hx:x<4294967296):bb ([x/16777216%256,x/65536%256,x/256%256,x%256].map UInt8.ofNat)=x:=by
 simp [bb,List.foldl];omega
theorem rM {bs:List Nat} {x D:Nat} (hx:x<4294967296) (h:bb (bs.map UInt8.ofNat)=D):bb ((bs++[x/16777216%256,x/65536%256,x/256%256,x%256]).map UInt8.ofNat)=x+4294967296*D:=by
 rw [List.map_append,gF,Ib x hx,h];simp;omega
theorem tW {P:Program} {src dst e:TypeId} (hs:P.underlying src=some (.slice e)) (he:P.underlying e=some (.int .u8)) (hd:P.underlying dst=some .string) (w:World) (a:Addr) (cap:Nat):
  ∃s:ByteArray,(convert src dst (.slice (some a) 0 cap)).run P w= .ok (.string s) w/\s.data.toList=[]:=by
 have h5:(loadCells a 0).run P w= .ok (([]:List Int).map (Value.int .u8)).toArray w:=by
  have:=run_loadCells (P:=P) (w:=w) a 0 (fun j=> .int .u8 0) (fun j hj=>by omega);rw [this];rfl
 refine ⟨_,by rw [run_convert_bytes_string w src dst e _ 0 cap hs he hd,run_bytesToString w a 0 cap _ h5],?_⟩;rw [lV];simp
theorem vl {P:Program} {src dst e:TypeId} (hs:P.underlying src=some (.slice e)) (he:P.underlying e=some (.int .u8)) (hd:P.underlying dst=some .string)
  {w:World} {E base:Nat} {v:Value} {l:List Nat} (h:rGrow E 1 rU8 base w v l) {a:Addr} {c:Nat} (hv:l=[]->v= .slice (some a) 0 c):
  ∃s:ByteArray,(convert src dst v).run P w= .ok (.string s) w/\s.data.toList=l.map UInt8.ofNat:=by
 rcases Nat.eq_zero_or_pos l.length with h0|h0
 ·have:l=[]:=List.eq_nil_of_length_eq_zero h0;rw [hv this];obtain ⟨s,h1,h2⟩:=tW hs he hd w a c;exact ⟨s,h1,by rw [h2,this];rfl⟩
 exact tR hs he hd (h.slice nz) h0
theorem sf (S:Nat->Prop) (v:Value) (xs:List Nat) (w:World) (hS:∀b,S b->b<w.heap.size) (hl:xs.length<=1000000000000) (hv:aP 1 bk w S [v] xs):
  Calls prog 151 #[v] w fun e w'=>e= .returned (.string (aj (ac xs)))/\Below w.heap.size w w':=by
 have HST:=hid (fU S v xs w hv);have hxs:=hid (bl (ac xs));have hlen:(ae (ac xs)).length<=1000000000000:=Nat.le_trans (bZ (a7 (f8 hv))) hl;have vv:=hid (ao (ac xs));generalize ac xs=V at *
 generalize ae V=ys at *
 obtain ⟨n,hn4⟩:∃n:Nat,n=4*ys.length:=⟨_,rfl⟩;have hm1:(4:Int)*(ys.length:Int)=(n:Int):=by omega
 have hmk:=fun (w:World)=>CI (P:=prog) underlying236 Tryz.infoU8 w n (by omega) (by omega)
 have hnb:n<=9223372036854775807:=by omega
 have HN:=hid hn4;clear hn4 hv hl;go_enter func151,ntmps151
 go_wp2_with fail
 refine Calls.mono HST.out ?_;rintro e w1 ⟨r,rfl,rfl,hr⟩;obtain ⟨a,cap,rfl,h1,h2,h3,h4⟩:=aW hr;clear hr;go_wp2
 clear hmk;have hm0:=hid (rGrow.made (α:=Nat) 5 rU8 w #[.int .u8 0] n (by unfold maxLen;omega) (Nat.le_refl w.heap.size));rw [Nat.mul_one] at hm0;go_loopw [3,4,5] (fun p i _ wr=>∃(k:Nat) (bs:List Nat),k<=ys.length/\i= .int .i64 ((k:Int)-1)/\Below w.heap.size w wr/\rGrow 5 1 rU8 w.heap.size wr p bs/\Hid (bs.length+4*k=n)/\Hid (bb (bs.map UInt8.ofNat)=ac (ys.drop k))/\Hid (bs=[]->p= .slice (some ⟨w.heap.size,0,none⟩) 0 n)) (fun _ i _ _=>(intOf i+1).toNat)
 case atStart=>
  exact ⟨ys.length,[],Nat.le_refl _,rfl,(Below.refl _ _).alloc (Nat.le_refl _) _,hm0.out,by show 0+_=_;rw [HN.out];omega,by show bb []=_;rw [List.drop_length];rfl,fun _=>rfl⟩
 case round=>
  obtain ⟨k,bs,hk,rfl,hbw,hg,HL,HV,HE⟩:=hrel;have hsz:=hbw.size;cases k with
  |zero=>
   obtain ⟨s,hs1,hs2⟩:=vl (P:=prog) underlying236 underlying5 underlying9 hg HE.out;have hsz2:s.size<=maxLen:=by
    have:=congrArg List.length hs2;rw [Array.length_toList] at this;simp at this;unfold maxLen;have h1:s.size=bs.length:=this;have:=HL.out;omega
   have hval:ah s=V:=by
    unfold ah;rw [hs2,HV.out,List.drop_zero];exact vv.out
   have HC:=hid (b0 s wr hsz2);rw [hval] at HC;clear hs2 hval;go_wp2_with fail
   refine Calls.mono HC.out ?_;rintro e w1 ⟨rfl,rfl⟩;go_wp2
   go_ret
   exact ⟨rfl,hbw⟩
  |succ k=>
   rw [show (((k+1:Nat):Int)-1)=(k:Int) by omega];have hlt:k<ys.length:=by omega
   rcases h4 with rfl|⟨b,off,rfl,h4⟩
   ·simp at hlt
   obtain ⟨g0,g1⟩:=h4.u32 hlt;rw [←hbw.cell (p:=⟨b,off+k,none⟩) (hS _ h4.1)] at g0;have hdr:ac (ys.drop k)=ys[k]+4294967296*ac (ys.drop (k+1)):=by rw [List.drop_eq_getElem_cons hlt];rfl
   obtain ⟨x,hx⟩:∃x,x=ys[k]:=⟨_,rfl⟩;rw [←hx] at g0 g1 hdr;have HDR:=hid hdr;clear hx hdr;obtain ⟨d0,hd0⟩:∃d,d=x/16777216:=⟨_,rfl⟩;obtain ⟨d1,hd1⟩:∃d,d=x/65536%256:=⟨_,rfl⟩;obtain ⟨d2,hd2⟩:∃d,d=x/256%256:=⟨_,rfl⟩;obtain ⟨d3,hd3⟩:∃d,d=x%256:=⟨_,rfl⟩;have q1:(x:Int)/16777216=(d0:Int):=by omega
   have q2:(x:Int)/65536%256=(d1:Int):=by omega
   have q3:(x:Int)/256%256=(d2:Int):=by omega
   have q4:(x:Int)%256=(d3:Int):=by omega
   have HB:=hid (rM g1 HV.out);rw [show x/16777216%256=d0 by omega,←hd1,←hd2,←hd3] at HB;have hb0:d0<256:=by omega
   have hb1:d1<256:=by omega
   have hb2:d2<256:=by omega
   have hb3:d3<256:=by omega
   have hg2:=hg.kept nz ((Below.refl _ _).alloc (Nat.le_refl _) (.cells #[.int .u8 (d0:Int),.int .u8 (d1:Int),.int .u8 (d2:Int),.int .u8 (d3:Int)] 5));have HH:=hid (show d0<256/\d1<256/\d2<256/\d3<256 from ⟨hb0,hb1,hb2,hb3⟩);clear hd0 hd1 hd2 hd3 hb1 hb2 hb3;go_wp2_with (at_builtin;refine tQ _ rfl _ _ 236 rfl nz w.heap.size 5 1 _ underlying236 Tryz.infoU8 rfl _ bs [d0,d1,d2,d3] rfl hg2 ?hbase ?hbytes ?h63 (Nat.succ_pos 3) wr.heap.size 4 [.int .u8 (d0:Int),.int .u8 (d1:Int),.int .u8 (d2:Int),.int .u8 (d3:Int)] rfl rfl ?hb rfl ?hy ?_)
   case hbase=>simp;omega
   case hbytes=>have:=HL.out;simp;omega
   case h63=>have:=HL.out;simp;omega
   case hb=>exact ⟨(0,0),heap_alloc_new _ _⟩
   case hy=>
    intro j hj;have hh:=HH.out;have:j=0∨j=1∨j=2∨j=3:=by simp at hj;omega
    rcases this with rfl|rfl|rfl|rfl
    ·exact ⟨rfl,hh.1⟩
    ·exact ⟨rfl,hh.2.1⟩
    ·exact ⟨rfl,hh.2.2.1⟩
    exact ⟨rfl,hh.2.2.2⟩
   intro v' w' hg' hgr hbel';have hbel2:Below w.heap.size w w':=(hbw.alloc hsz _).trans hbel';clear hg2 hg hbel' hgr;go_wp2
   go_roundw
   case rel=>
    refine ⟨k,bs++[d0,d1,d2,d3],by omega,rfl,hbel2,hg',by have:=HL.out;simp [Hid];omega,?_,fun h=>by simp at h⟩;exact HB.out.trans HDR.out.symm
   case measure=>simp [intOf]
def OwnL (w:World) (g:Nat) (n:Nat) (o:List Nat):Prop:=o.length=n/\(∀x∈o,x<4294967296)/\∃f,Own w g 206 n f/\∀j,f j= .int .u32 ((o.getD j 0:Nat):Int)
theorem OwnL.cell {w:World} {g n:Nat} {o:List Nat} (h:OwnL w g n o) {j:Nat} (hj:j<o.length):w.cell? ⟨g,j,none⟩=some (.int .u32 (o[j]:Nat)):=by
 obtain ⟨h1,_,f,h2,h3⟩:=h;rw [h2.cell (by omega),h3 j];simp [List.getD,hj]
theorem OwnL.frozen {w:World} {g n:Nat} {o:List Nat} (h:OwnL w g n o) (j:Nat):w.frozen? ⟨g,j,none⟩=false:=h.2.2.choose_spec.1.frozen j
theorem OwnL.set {w:World} {g n:Nat} {o:List Nat} (h:OwnL w g n o) {p d:Nat} (hp:p<o.length) (hd:d<4294967296):OwnL (w.setCell ⟨g,p,none⟩ (.int .u32 d)) g n (o.set p d):=by
 obtain ⟨h1,h2,f,h3,h4⟩:=h;refine ⟨by simpa using h1,fun x hx=>?_,_,h3.set p _,jo hp h4 d⟩;rcases List.mem_or_eq_of_mem_set hx with h|h
 ·exact h2 x h
 omega
theorem OwnL.below {w w':World} {B g n:Nat} {o:List Nat} (h:OwnL w g n o) (hb:Below B w w') (hg:g<B):OwnL w' g n o:=⟨h.1,h.2.1,h.2.2.choose,h.2.2.choose_spec.1.below hb hg,h.2.2.choose_spec.2⟩
theorem OwnL.lt {w:World} {g n:Nat} {o:List Nat} (h:OwnL w g n o):g<w.heap.size:=h.2.2.choose_spec.1.lt
theorem OwnL.new (w:World) (n:Nat):OwnL (w.alloc (.cells ((Array.range n).map fun _=> .int .u32 0) 206)) w.heap.size n (List.replicate n 0):=by
 refine ⟨by simp,fun x hx=>by have:=List.eq_of_mem_replicate hx;omega,_,Own.new _ _ _ _,fun j=>?_⟩;simp [List.getD,List.getElem?_replicate];split<;>rfl
theorem OwnL.slice {w:World} {g n:Nat} {o:List Nat} (h:OwnL w g n o) (hn:n<=9223372036854775807):aP 1 bk w (LT w.heap.size) [.slice (some ⟨g,0,none⟩) n n] o:=
 dS h.2.2.choose_spec.1 h.2.2.choose_spec.2 h.1 hn h.2.1
theorem jq {s:Nat} (hs:s<32):2^s<=2147483648:=by
 have:=Nat.pow_le_pow_right (n:=2) (by decide) (show s<=31 by omega);exact this
theorem vn {x c s:Nat} (hx:x<4294967296) (hs:s<32) (hc:c<2^s):
  ∃lo hi:Nat,bits .or .u32 (c:Int) (IntKind.u64.wrap ((x:Int)*2^s)%4294967296)=((c+lo:Nat):Int)/\
  bits .or .u32 (0:Int) (IntKind.u64.wrap ((x:Int)*2^s)/4294967296%4294967296)=(hi:Int)/\c+lo<4294967296/\hi<2^s/\4294967296*hi+lo=x*2^s:=by
 have hp:=jq hs;have ht:x*2^s<=4294967295*2147483648:=Nat.mul_le_mul (by omega) hp;have e1:(x:Int)*2^s=((x*2^s:Nat):Int):=by rw [Int.natCast_mul,Int.natCast_pow];rfl
 have e2:IntKind.u64.wrap ((x:Int)*2^s)=((x*2^s:Nat):Int):=by rw [e1];exact IntWalk.u64_in _ (by omega)
 have hW:4294967296=2^(32-s)*2^s:=by rw [←Nat.pow_add,show 32-s+s=32 by omega]
 have hlo:x*2^s%4294967296=x%2^(32-s)*2^s:=by
  conv=>lhs;rw [hW]
  exact Nat.mul_mod_mul_right _ _ _
 have hhi:x*2^s/4294967296<2^s:=by
  apply Nat.div_lt_of_lt_mul;exact Nat.mul_lt_mul_of_pos_right hx (Nat.pow_pos (by decide))
 have hlo2:x*2^s%4294967296<4294967296:=Nat.mod_lt _ (by decide);have hor:c|||x*2^s%4294967296=c+x*2^s%4294967296:=by rw [hlo,tP c _ s hc];omega
 have hsum:c+x*2^s%4294967296<4294967296:=by
  rw [hlo];have h1:(x%2^(32-s)+1)*2^s<=2^(32-s)*2^s:=Nat.mul_le_mul_right _ (Nat.mod_lt _ (Nat.pow_pos (by decide)));rw [←hW,Nat.add_mul] at h1;omega
 generalize hT:x*2^s=T at *
 refine ⟨T%4294967296,T/4294967296,?_,?_,hsum,hhi,Nat.div_add_mod _ _⟩
 ·rw [e2,show ((T:Int)%4294967296)=((T%4294967296:Nat):Int) by omega,u32_or_nat _ _ (by omega) hlo2,hor]
 rw [e2,show ((T:Int)/4294967296%4294967296)=((T/4294967296:Nat):Int) by omega,show (0:Int)=((0:Nat):Int) from rfl,u32_or_nat _ _ (by omega) (by omega)];simp
theorem si (S : Nat → Prop) (u : Value) (xs : List Nat) (s n : Nat) (w : World) (hS : ∀ b, S b → b < w.heap.size) (hn : n ≤ 1000000000000) (hs : s < 32) (hxn : xs.length ≤ n) (hv : ac xs * 2 ^ s < 4294967296 ^ n) (hu : aP 1 bk w S [u] xs) :
    Calls prog 214 #[u, .int .u64 s, .int .i64 n] w fun e w' => ∃ g o, e = .returned (.slice (some ⟨g, 0, none⟩) n n) ∧ w.heap.size ≤ g ∧ OwnL w' g n o ∧ ac o = ac xs * 2 ^ s ∧ Below w.heap.size w w' := by
  have hxlt := hid (f8 hu)
  obtain ⟨xa, xc, rfl, x1, x2, x3, x4⟩ := aW hu
  have hn' := eS x1 x2
  have hmk := fun (w : World) => cE (P := prog) underlying204 Tryz.infoU32 rfl w n (by omega) (by omega)
  have HV := hid hv
  clear hv
  go_enter func214, ntmps214
  go_wp2
  clear hmk
  go_loopw [8, 9, 10, 15] (fun _ _ _ i wr => ∃ (k : Nat) (o : List Nat), k ≤ xs.length ∧ i = .int .i64 k ∧ Below w.heap.size w wr ∧ OwnL wr w.heap.size n o ∧
      Hid (ac o = ac (xs.take k) * 2 ^ s) ∧ Hid (∀ j, k < j → o.getD j 0 = 0) ∧ Hid (o.getD k 0 < 2 ^ s)) (fun _ _ _ i _ => xs.length - (intOf i).toNat)
  case atStart =>
    refine ⟨0, _, Nat.zero_le _, rfl, (Below.refl _ _).alloc (Nat.le_refl _) _, OwnL.new _ _, ?_, fun j _ => ?_, ?_⟩
    · show ac _ = ac (xs.take 0) * 2 ^ s; rw [eu]; simp [ac]
    · simp [List.getD, List.getElem?_replicate]; split <;> rfl
    show (List.replicate n 0).getD 0 0 < 2 ^ s
    have : (List.replicate n 0).getD 0 0 = 0 := by simp [List.getD, List.getElem?_replicate]; split <;> rfl
    rw [this]; exact Nat.pow_pos (by decide)
  case round =>
    obtain ⟨k, o, hk, rfl, hbw, hown, HE, HZ, HC⟩ := hrel
    by_cases hlt : k < xs.length
    · rcases x4 with rfl | ⟨b1, off1, rfl, x4⟩
      · simp at hlt
      obtain ⟨g0, g1⟩ := x4.u32 hlt
      rw [← hbw.cell (p := ⟨b1, off1 + k, none⟩) (hS _ x4.1)] at g0
      have hko : k < o.length := by rw [hown.1]; omega
      have c1 := hown.cell hko
      have c2 := hown.frozen k
      have ek : o.getD k 0 = o[k] := by simp [List.getD, hko]
      have hck := HC.out
      rw [ek] at hck
      obtain ⟨lo, hi, b1', b2', b3', b4', hdm⟩ := vn (x := xs[k]) (c := o[k]) g1 hs hck
      have HT := hid (bx xs k hlt)
      have HS := hid (fun d => cW o k d hko)
      have HDM := hid hdm
      have B1 := hid b1'
      have B2 := hid b2'
      have B3 := hid b3'
      have B4 := hid b4'
      have CK := hid hck
      clear b1' b2' b3' b4' hck ek hdm
      by_cases hk1 : k + 1 < n
      · have hko1 : k + 1 < o.length := by rw [hown.1]; omega
        have e0 : o[k + 1] = 0 := by have := HZ.out (k + 1) (by omega); simpa [List.getD, hko1] using this
        have c3 := hown.cell hko1
        rw [e0] at c3
        have E0 := hid e0
        clear e0
        have c4 := hown.frozen (k + 1)
        go_wp2
        go_roundw
        case rel =>
          rw [B1.out, B2.out]
          have h2 : x2 = x2 := rfl
          refine ⟨k + 1, (o.set k (o[k] + lo)).set (k + 1) (hi), by omega, by go_num, (hbw.setCell (Nat.le_refl _) _).setCell (Nat.le_refl _) _,
            (hown.set hko B3.out).set (by simpa using hko1) (by have := B4.out; have := jq hs; omega), ?_, fun j hj => ?_, ?_⟩
          · show ac _ = _
            have h1 := cW (o.set k (o[k] + lo)) (k + 1) (hi) (by simpa using hko1)
            have h3 := HS.out (o[k] + lo)
            have h4 : (o.set k (o[k] + lo))[k + 1]'(by simpa using hko1) = 0 := by rw [List.getElem_set_ne (by omega)]; exact E0.out
            rw [h4] at h1
            rw [HT.out, Nat.add_mul, ← HE.out, Nat.mul_assoc, ← HDM.out, Nat.mul_add, ← Nat.mul_assoc, ← Nat.pow_succ, Nat.succ_eq_add_one]
            rw [Nat.mul_add] at h3
            omega
          · have := HZ.out j (by omega)
            simpa [List.getD, List.getElem?_set, show ¬ k = j by omega, show ¬ k + 1 = j by omega] using this
          show ((o.set k _).set (k + 1) _).getD (k + 1) 0 < 2 ^ s
          simp [List.getD, hko1]
          exact B4.out
        case measure => simp [intOf]; omega
      have hn1 : n = k + 1 := by omega
      have HN1 := hid hn1
      clear hn1
      go_wp2
      go_roundw
      case rel =>
        rw [B1.out]
        have hfull : xs.take (k + 1) = xs := List.take_of_length_le (by omega)
        have hV := HV.out
        have hsmall : hi = 0 := by
          have hlt' : xs[k] * 2 ^ s < 4294967296 := by
            have h5 := HT.out
            rw [hfull] at h5
            rw [h5, HN1.out, Nat.add_mul, ← HE.out, Nat.mul_assoc, Nat.pow_succ] at hV
            exact Nat.lt_of_mul_lt_mul_left (a := 4294967296 ^ k) (by omega)
          have := HDM.out
          omega
        refine ⟨k + 1, o.set k (o[k] + lo), by omega, by go_num, hbw.setCell (Nat.le_refl _) _, hown.set hko B3.out, ?_, fun j hj => ?_, ?_⟩
        · show ac _ = _
          have h3 := HS.out (o[k] + lo)
          have h6 := HDM.out
          rw [hsmall, Nat.mul_zero, Nat.zero_add] at h6
          rw [HT.out, Nat.add_mul, ← HE.out, Nat.mul_assoc, ← h6]
          rw [Nat.mul_add] at h3
          omega
        · have := HZ.out j (by omega)
          simpa [List.getD, List.getElem?_set, show ¬ k = j by omega] using this
        show (o.set k _).getD (k + 1) 0 < 2 ^ s
        have h7 : (o.set k (o[k] + lo)).length ≤ k + 1 := by have := hown.1; have := HN1.out; simp; omega
        simp only [List.getD, List.getElem?_eq_none h7, Option.getD_none]
        exact Nat.pow_pos (by decide)
      case measure => simp [intOf]; omega
    have hs' : ac o = ac xs * 2 ^ s := by have := HE.out; rwa [List.take_of_length_le (by omega)] at this
    have HS' := hid hs'
    clear hs'
    go_wp2
    go_ret
    exact ⟨_, o, rfl, Nat.le_refl _, hown, HS'.out, hbw⟩
theorem Ic {x c lo hi s:Nat} (hx:x<4294967296) (hs:s<32) (hl:c+lo<4294967296) (hh:hi<2^s) (h:4294967296*hi+lo=x*2^s):IntKind.u64.wrap ((x:Int)*2^s)/4294967296%4294967296=(hi:Int):=by
 have hp:=jq hs;have ht:x*2^s<=4294967295*2147483648:=Nat.mul_le_mul (by omega) hp;have e1:(x:Int)*2^s=((x*2^s:Nat):Int):=by rw [Int.natCast_mul,Int.natCast_pow];rfl
 have e2:IntKind.u64.wrap ((x:Int)*2^s)=((x*2^s:Nat):Int):=by rw [e1];exact IntWalk.u64_in _ (by omega)
 rw [e2,←h];omega
theorem oC (S : Nat → Prop) (u : Value) (xs : List Nat) (s : Nat) (w : World) (hS : ∀ b, S b → b < w.heap.size) (hn : xs.length ≤ 999999999999) (hs : s < 32) (hu : aP 1 bk w S [u] xs) :
    Calls prog 239 #[u, .int .u64 s] w fun e w' => ∃ g o, e = .returned (.slice (some ⟨g, 0, none⟩) (xs.length + 1) (xs.length + 1)) ∧ w.heap.size ≤ g ∧ OwnL w' g (xs.length + 1) o ∧ ac o = ac xs * 2 ^ s ∧ Below w.heap.size w w' := by
  have hxlt := hid (f8 hu)
  obtain ⟨xa, xc, rfl, x1, x2, x3, x4⟩ := aW hu
  have hn' := eS x1 x2
  obtain ⟨n, hnn⟩ : ∃ n, n = xs.length + 1 := ⟨_, rfl⟩
  rw [← hnn]
  have hm1 : (xs.length : Int) + 1 = (n : Int) := by omega
  have hmk := fun (w : World) => cE (P := prog) underlying203 Tryz.infoU32 rfl w n (by omega) (by omega)
  have hxn : xs.length < n := by omega
  have HNN := hid hnn
  clear hnn
  go_enter func239, ntmps239
  go_wp2
  clear hmk
  go_loopw [6, 7] (fun i _ wr => ∃ (k : Nat) (o : List Nat), k ≤ xs.length ∧ i = .int .i64 k ∧ Below w.heap.size w wr ∧ OwnL wr w.heap.size n o ∧
      Hid (ac o = ac (xs.take k) * 2 ^ s) ∧ Hid (∀ j, k < j → o.getD j 0 = 0) ∧ Hid (o.getD k 0 < 2 ^ s)) (fun i _ _ => xs.length - (intOf i).toNat)
  case atStart =>
    refine ⟨0, _, Nat.zero_le _, rfl, (Below.refl _ _).alloc (Nat.le_refl _) _, OwnL.new _ _, ?_, fun j _ => ?_, ?_⟩
    · show ac _ = ac (xs.take 0) * 2 ^ s; rw [eu]; simp [ac]
    · simp [List.getD, List.getElem?_replicate]; split <;> rfl
    show (List.replicate n 0).getD 0 0 < 2 ^ s
    have : (List.replicate n 0).getD 0 0 = 0 := by simp [List.getD, List.getElem?_replicate]; split <;> rfl
    rw [this]; exact Nat.pow_pos (by decide)
  case round =>
    obtain ⟨k, o, hk, rfl, hbw, hown, HE, HZ, HC⟩ := hrel
    by_cases hlt : k < xs.length
    · rcases x4 with rfl | ⟨b1, off1, rfl, x4⟩
      · simp at hlt
      obtain ⟨g0, g1⟩ := x4.u32 hlt
      rw [← hbw.cell (p := ⟨b1, off1 + k, none⟩) (hS _ x4.1)] at g0
      have hko : k < o.length := by rw [hown.1]; omega
      have c1 := hown.cell hko
      have c2 := hown.frozen k
      have ek : o.getD k 0 = o[k] := by simp [List.getD, hko]
      have hck := HC.out
      rw [ek] at hck
      obtain ⟨lo, hi, b1', b2', b3', b4', hdm⟩ := vn (x := xs[k]) (c := o[k]) g1 hs hck
      have HT := hid (bx xs k hlt)
      have HS := hid (fun d => cW o k d hko)
      have HDM := hid hdm
      have B1 := hid b1'
      have B2 := hid b2'
      have B3 := hid b3'
      have B4 := hid b4'
      have CK := hid hck
      have hb2 := Ic g1 hs b3' b4' hdm
      have B5 := hid hb2
      clear hb2 b1' b2' b3' b4' hck ek hdm
      by_cases hk1 : k + 1 < n
      · have hko1 : k + 1 < o.length := by rw [hown.1]; omega
        have e0 : o[k + 1] = 0 := by have := HZ.out (k + 1) (by omega); simpa [List.getD, hko1] using this
        have c3 := hown.cell hko1
        rw [e0] at c3
        have E0 := hid e0
        clear e0
        have c4 := hown.frozen (k + 1)
        go_wp2
        go_roundw
        case rel =>
          rw [B1.out, B5.out]
          have h2 : x2 = x2 := rfl
          refine ⟨k + 1, (o.set k (o[k] + lo)).set (k + 1) (hi), by omega, by go_num, (hbw.setCell (Nat.le_refl _) _).setCell (Nat.le_refl _) _,
            (hown.set hko B3.out).set (by simpa using hko1) (by have := B4.out; have := jq hs; omega), ?_, fun j hj => ?_, ?_⟩
          · show ac _ = _
            have h1 := cW (o.set k (o[k] + lo)) (k + 1) (hi) (by simpa using hko1)
            have h3 := HS.out (o[k] + lo)
            have h4 : (o.set k (o[k] + lo))[k + 1]'(by simpa using hko1) = 0 := by rw [List.getElem_set_ne (by omega)]; exact E0.out
            rw [h4] at h1
            rw [HT.out, Nat.add_mul, ← HE.out, Nat.mul_assoc, ← HDM.out, Nat.mul_add, ← Nat.mul_assoc, ← Nat.pow_succ, Nat.succ_eq_add_one]
            rw [Nat.mul_add] at h3
            omega
          · have := HZ.out j (by omega)
            simpa [List.getD, List.getElem?_set, show ¬ k = j by omega, show ¬ k + 1 = j by omega] using this
          show ((o.set k _).set (k + 1) _).getD (k + 1) 0 < 2 ^ s
          simp [List.getD, hko1]
          exact B4.out
        case measure => simp [intOf]; omega
      exact absurd (by have := HNN.out; omega) hk1
    have hk' : k = xs.length := by omega
    have hval : ac o = ac xs * 2 ^ s := by
      rw [HE.out, List.take_of_length_le (by omega)]
    have HVAL := hid hval
    clear hval
    go_wp2
    go_ret
    exact ⟨_, _, rfl, Nat.le_refl _, hown, HVAL.out, hbw⟩
theorem Bt (x r:Nat) (hx:x<4294967296) (hr:r<4294967296):bits .or .u64 (x:Int) ((r:Int)*4294967296)=((r*4294967296+x:Nat):Int):=by
 have e:(r:Int)*4294967296=((r*2^32:Nat):Int):=by rw [Int.natCast_mul];rfl
 rw [e,u64_or_nat _ _ (by omega) (by omega),tP x r 32 (by omega)]
theorem lK {xs:List Nat} (hxs:∀x∈xs,x<4294967296) (i s:Nat) (hi:i<xs.length) (hs:s<32):(xs.getD (i+1) 0*4294967296+xs[i])/2^s%4294967296=ac xs/2^s/4294967296^i%4294967296:=by
 have hx:∃r l,ac xs=l+4294967296^i*(xs[i]+4294967296*xs.getD (i+1) 0+18446744073709551616*r)/\l=ac (xs.take i):=by
  refine ⟨ac (xs.drop (i+2)),ac (xs.take i),?_,rfl⟩;have e1:ac xs=ac (xs.take i)+4294967296^i*ac (xs.drop i):=by
   conv=>lhs;rw [←List.take_append_drop i xs]
   rw [dz,List.length_take,Nat.min_eq_left (by omega)]
  have e2:ac (xs.drop i)=xs[i]+4294967296*ac (xs.drop (i+1)):=by rw [List.drop_eq_getElem_cons hi];rfl
  have e3:ac (xs.drop (i+1))=xs.getD (i+1) 0+4294967296*ac (xs.drop (i+2)):=by
   by_cases h:i+1<xs.length
   ·rw [List.drop_eq_getElem_cons h];simp [List.getD,h,ac]
   rw [List.drop_of_length_le (by omega),List.drop_of_length_le (by omega)];simp [List.getD,List.getElem?_eq_none (by omega:xs.length<=i+1),ac]
  rw [e1,e2,e3,Nat.mul_add 4294967296 (xs.getD (i+1) 0)];congr 2;omega
 obtain ⟨r,l,hR,hl⟩:=hx;have hl':l<4294967296^i:=by
  have:=a7 (xs:=xs.take i) (fun x hx=>hxs x (List.mem_of_mem_take hx));rw [List.length_take,Nat.min_eq_left (by omega)] at this;rw [hl];exact this
 rw [Nat.div_div_eq_div_mul,Nat.mul_comm (2^s),←Nat.div_div_eq_div_mul,hR,Nat.add_mul_div_left _ _ (nA i),Nat.div_eq_of_lt hl',Nat.zero_add];have e1:(18446744073709551616:Nat)*r=2^s*(4294967296*(2^(32-s)*r)):=by
  have:(18446744073709551616:Nat)=2^s*(4294967296*2^(32-s)):=by
   have e2:(4294967296:Nat)=2^32:=by decide
   rw [e2,←Nat.pow_add,←Nat.pow_add,show s+(32+(32-s))=64 by omega]
  conv=>lhs;rw [this]
  rw [Nat.mul_assoc,Nat.mul_assoc]
 rw [e1,Nat.add_mul_div_left _ _ (Nat.pow_pos (by decide)),Nat.add_mul_mod_self_left,Nat.mul_comm (xs.getD (i+1) 0),Nat.add_comm]
theorem vo (S : Nat → Prop) (u : Value) (xs : List Nat) (s : Nat) (w : World) (hS : ∀ b, S b → b < w.heap.size) (hl : xs.length ≤ 1000000000000) (hs : s < 32) (hu : aP 1 bk w S [u] xs) :
    Calls prog 216 #[u, .int .u64 s] w fun e w' => ∃ r, e = .returned r ∧ aP 1 bk w' (LT w'.heap.size) [r] (ae (ac xs / 2 ^ s)) ∧ Below w.heap.size w w' := by
  have hxlt := hid (f8 hu)
  obtain ⟨xa, xc, rfl, x1, x2, x3, x4⟩ := aW hu
  have hn' := eS x1 x2
  have hmk := fun (w : World) => cE (P := prog) underlying204 Tryz.infoU32 rfl w xs.length (by omega) (by omega)
  go_enter func216, ntmps216
  go_wp2
  clear hmk
  go_loopw [6, 7, 13] (fun _ _ i wr => ∃ (k : Nat) (o : List Nat), k ≤ xs.length ∧ i = .int .i64 k ∧ Below w.heap.size w wr ∧ OwnL wr w.heap.size xs.length o ∧
      Hid (∀ j, j < k → o.getD j 0 = ac xs / 2 ^ s / 4294967296 ^ j % 4294967296)) (fun _ _ i _ => xs.length - (intOf i).toNat)
  case atStart => exact ⟨0, _, Nat.zero_le _, rfl, (Below.refl _ _).alloc (Nat.le_refl _) _, OwnL.new _ _, fun j hj => by omega⟩
  case round =>
    obtain ⟨k, o, hk, rfl, hbw, hown, HE⟩ := hrel
    by_cases hlt : k < xs.length
    · rcases x4 with rfl | ⟨b1, off1, rfl, x4⟩
      · simp at hlt
      obtain ⟨g0, g1⟩ := x4.u32 hlt
      rw [← hbw.cell (p := ⟨b1, off1 + k, none⟩) (hS _ x4.1)] at g0
      have hko : k < o.length := by rw [hown.1]; omega
      have c1 := hown.cell hko
      have c2 := hown.frozen k
      have HD := hid (lK hxlt.out k s hlt hs)
      obtain ⟨x, hx⟩ : ∃ x, x = xs[k] := ⟨_, rfl⟩
      rw [← hx] at g0 g1 HD
      clear hx
      by_cases hk1 : k + 1 < xs.length
      · obtain ⟨f0, f1⟩ := x4.u32 hk1
        rw [← hbw.cell (p := ⟨b1, off1 + (k + 1), none⟩) (hS _ x4.1)] at f0
        have ey : xs.getD (k + 1) 0 = xs[k + 1] := by simp [List.getD, hk1]
        rw [ey] at HD
        obtain ⟨y, hy⟩ : ∃ y, y = xs[k + 1] := ⟨_, rfl⟩
        rw [← hy] at f0 f1 HD
        clear hy ey
        have o1 := Bt x y g1 f1
        obtain ⟨d, hd⟩ : ∃ d : Nat, d = (y * 4294967296 + x) / 2 ^ s % 4294967296 := ⟨_, rfl⟩
        have hd1 : d < 4294967296 := by rw [hd]; exact Nat.mod_lt _ (by decide)
        have HV := hid (show ((y : Int) * 4294967296 + (x : Int)) / 2 ^ s % 4294967296 = (d : Int) by
          rw [hd, Int.natCast_emod, Int.natCast_ediv, Int.natCast_pow]; try rw [Int.natCast_add, Int.natCast_mul]
          rfl)
        skip
        rw [HD.out] at hd
        have HD2 := hid hd
        clear hd HD
        go_wp2
        go_roundw
        case rel =>
          rw [HV.out]
          refine ⟨k + 1, o.set k d, by omega, by go_num, hbw.setCell (Nat.le_refl _) _, hown.set hko hd1, fun j hj => ?_⟩
          by_cases hjk : j = k
          · subst hjk; rw [← HD2.out]; simp [List.getD, hko]
          rw [← HE.out j (by omega)]; simp [List.getD, show ¬ k = j by omega]
        case measure => simp [intOf]; omega
      have ey : xs.getD (k + 1) 0 = 0 := by simp [List.getD, List.getElem?_eq_none (by omega : xs.length ≤ k + 1)]
      rw [ey] at HD
      clear ey
      obtain ⟨d, hd⟩ : ∃ d : Nat, d = x / 2 ^ s % 4294967296 := ⟨_, rfl⟩
      have hd1 : d < 4294967296 := by rw [hd]; exact Nat.mod_lt _ (by decide)
      have HV := hid (show (x : Int) / 2 ^ s % 4294967296 = (d : Int) by
        rw [hd, Int.natCast_emod, Int.natCast_ediv, Int.natCast_pow]; try rw [Int.natCast_add, Int.natCast_mul]
        rfl)
      rw [show x = 0 * 4294967296 + x by omega] at hd
      rw [HD.out] at hd
      have HD2 := hid hd
      clear hd HD
      go_wp2
      go_roundw
      case rel =>
        rw [HV.out]
        refine ⟨k + 1, o.set k d, by omega, by go_num, hbw.setCell (Nat.le_refl _) _, hown.set hko hd1, fun j hj => ?_⟩
        by_cases hjk : j = k
        · subst hjk; rw [← HD2.out]; simp [List.getD, hko]
        rw [← HE.out j (by omega)]; simp [List.getD, show ¬ k = j by omega]
      case measure => simp [intOf]; omega
    have hoe : o = cU xs.length (ac xs / 2 ^ s) := by
      apply List.ext_getElem?
      intro j
      by_cases hj : j < xs.length
      · have h1 := HE.out j (by omega)
        rw [fD _ _ _ hj, ← h1]
        have : j < o.length := by rw [hown.1]; exact hj
        simp [List.getD, this]
      rw [List.getElem?_eq_none (by rw [hown.1]; omega), List.getElem?_eq_none (by rw [cC]; omega)]
    have hval : ac o = ac xs / 2 ^ s := by
      rw [hoe, jm]
      apply Nat.mod_eq_of_lt
      exact Nat.lt_of_le_of_lt (Nat.div_le_self _ _) (a7 hxlt.out)
    have hT := iY _ _ _ _ (hown.slice (by omega))
    rw [hval] at hT
    have HT := hid hT
    clear hval hoe hT
    go_wp2_with fail
    refine Calls.mono HT.out ?_
    rintro e' w3 ⟨r, rfl, rfl, hr⟩
    go_wp2
    go_ret
    exact ⟨_, rfl, hr, hbw⟩
end Go.Proofs.YtokmkopihhnggaaGreatDoor
section
/- Long division, one digit (Knuth's algorithm D): plain. -/
namespace Go.Proofs.YtokmkopihhnggaaGreatDoor
section
variable {D U M D0 U0 dt d2 top u2 : Nat} (hD : D = (dt * 4294967296 + d2) * M + D0) (hU : U = (top * 4294967296 + u2) * M + U0) (hD0 : D0 < M) (hU0 : U0 < M)
include hD hU hU0
theorem sj {G R:Nat} (h:G*dt+R=top) (hg:R*4294967296+u2<G*d2):U<G*D:=by
 have h1:(top*4294967296+u2+1)*M<=(G*(dt*4294967296+d2))*M:=by
  apply Nat.mul_le_mul_right;rw [←h,Nat.mul_add,Nat.add_mul,←Nat.mul_assoc];omega
 rw [Nat.add_mul,Nat.one_mul] at h1;have h2:G*D=G*(dt*4294967296+d2)*M+G*D0:=by rw [hD,Nat.mul_add,←Nat.mul_assoc]
 rw [hU,h2];omega
include hD0
theorem pu {G R:Nat} (hdt:0<dt) (h:G*dt+R=top) (hg:G*d2<=R*4294967296+u2) (hG:G<=4294967296):G*D<=U+D:=by
 have h1:(G*(dt*4294967296+d2))*M<=(top*4294967296+u2)*M:=by
  apply Nat.mul_le_mul_right;rw [←h,Nat.mul_add,Nat.add_mul,←Nat.mul_assoc];omega
 have h2:G*D=G*(dt*4294967296+d2)*M+G*D0:=by rw [hD,Nat.mul_add,←Nat.mul_assoc]
 have h3:G*D0<=4294967296*M:=Nat.mul_le_mul hG (Nat.le_of_lt hD0);have h4:4294967296*M<=(dt*4294967296+d2)*M:=Nat.mul_le_mul_right _ (by omega);rw [h2];omega
end
theorem cF (xs:List Nat) (m:Nat) (hm:m<=xs.length):ac xs=ac (xs.take m)+4294967296^m*ac (xs.drop m):=by
 conv=>lhs;rw [←List.take_append_drop m xs]
 rw [dz,List.length_take,Nat.min_eq_left hm]
theorem pv {xs:List Nat} (h:∀x∈xs,x<4294967296) (m:Nat) (hl:xs.length=m+2):
  ∃X0,X0<4294967296^m/\ac xs=(xs.getD (m+1) 0*4294967296+xs.getD m 0)*4294967296^m+X0:=by
 refine ⟨ac (xs.take m),?_,?_⟩
 ·have:=a7 (xs:=xs.take m) (fun x hx=>h x (List.mem_of_mem_take hx));rwa [List.length_take,Nat.min_eq_left (by omega)] at this
 rw [cF xs m (by omega)];have e:xs.drop m=[xs.getD m 0,xs.getD (m+1) 0]:=by
  rw [List.drop_eq_getElem_cons (by omega),List.drop_eq_getElem_cons (by omega),List.drop_of_length_le (by omega)];simp [List.getD,show m<xs.length by omega,show m+1<xs.length by omega]
 rw [e];simp only [ac];rw [Nat.mul_comm (4294967296^m),Nat.add_comm,Nat.mul_comm 4294967296,Nat.mul_zero,Nat.add_zero];congr 2;omega
theorem pw {xs:List Nat} (h:∀x∈xs,x<4294967296) (m:Nat) (hl:xs.length=m+3):
  ∃X0,X0<4294967296^m/\ac xs=((xs.getD (m+2) 0*4294967296+xs.getD (m+1) 0)*4294967296+xs.getD m 0)*4294967296^m+X0:=by
 refine ⟨ac (xs.take m),?_,?_⟩
 ·have:=a7 (xs:=xs.take m) (fun x hx=>h x (List.mem_of_mem_take hx));rwa [List.length_take,Nat.min_eq_left (by omega)] at this
 rw [cF xs m (by omega)];have e:xs.drop m=[xs.getD m 0,xs.getD (m+1) 0,xs.getD (m+2) 0]:=by
  rw [List.drop_eq_getElem_cons (by omega),List.drop_eq_getElem_cons (by omega),List.drop_eq_getElem_cons (by omega),List.drop_of_length_le (by omega)];simp [List.getD,show m<xs.length by omega,show m+1<xs.length by omega,show m+2<xs.length by omega]
 rw [e];simp only [ac];rw [Nat.mul_comm (4294967296^m),Nat.add_comm,Nat.mul_zero,Nat.add_zero];congr 2;omega
theorem sl {U D G:Nat} (hD:0<D) (h1:U<(G+1)*D) (h2:G*D<=U+D):G=U/D∨G=U/D+1:=by
 have h3:U/D<=G:=by
  have:=Nat.div_lt_of_lt_mul (show U<D*(G+1) by rw [Nat.mul_comm];exact h1);omega
 have h4:G<=U/D+1:=by
  have h5:U<(U/D+1)*D:=by rw [Nat.mul_comm];exact Nat.lt_mul_div_succ U hD
  rcases Nat.lt_or_ge (U/D+1) G with h|h
  ·exfalso;have h6:(U/D+1+1)*D<=G*D:=Nat.mul_le_mul_right _ h;rw [Nat.add_mul,Nat.one_mul] at h6;omega
  exact h
 omega
theorem vp {D U M D0 U0 dt d2 un u1 u2:Nat} (hDe:D=(dt*4294967296+d2)*M+D0) (hUe:U=((un*4294967296+u1)*4294967296+u2)*M+U0) (hD0:D0<M) (l4:d2<4294967296) (hU:U<4294967296*D):un<=dt:=by
 rcases Nat.lt_or_ge dt un with h|h
 ·exfalso;have h1:(dt*4294967296+d2+1)*M<=(dt+1)*4294967296*M:=Nat.mul_le_mul_right _ (by omega);have h2:(dt+1)*4294967296*4294967296*M<=((un*4294967296+u1)*4294967296+u2)*M:=Nat.mul_le_mul_right _ (by omega);rw [Nat.add_mul,Nat.one_mul] at h1;have h3:(dt+1)*4294967296*4294967296*M=4294967296*((dt+1)*4294967296*M):=by rw [Nat.mul_assoc ((dt+1)*4294967296),Nat.mul_left_comm]
  omega
 exact h
theorem tX {W D U M D0 U0 dt d2 t u2 G0 R0:Nat} (hDe:D=(dt*W+d2)*M+D0) (hUe:U=(t*W+u2)*M+U0) (hU0:U0<M) (l2:u2<W)
  (hGR:G0*dt+R0=t) (hR0l:R0<dt):U<(G0+1)*D:=by
 have h1:t+1<=(G0+1)*dt:=by rw [Nat.add_mul];omega
 have h2:(t+1)*(W*M)<=(G0+1)*dt*(W*M):=Nat.mul_le_mul_right _ h1;have h3:dt*(W*M)<=D:=by
  rw [hDe,Nat.add_mul,Nat.mul_assoc,Nat.add_assoc];exact Nat.le_add_right _ _
 have h3':(G0+1)*(dt*(W*M))<=(G0+1)*D:=Nat.mul_le_mul_left _ h3;rw [←Nat.mul_assoc (G0+1) dt] at h3';have h5:t*W+u2+1<=(t+1)*W:=by rw [Nat.add_mul];omega
 have h6:(t*W+u2+1)*M<=(t+1)*W*M:=Nat.mul_le_mul_right _ h5;rw [Nat.add_mul (t*W+u2),Nat.one_mul,Nat.mul_assoc (t+1)] at h6;rw [hUe];generalize (t*W+u2)*M=a at *
 generalize (t+1)*(W*M)=b at *
 omega
theorem oD {D U M D0 U0 dt d2 un u1 u2 G0 R0:Nat} (hDe:D=(dt*4294967296+d2)*M+D0) (hUe:U=((un*4294967296+u1)*4294967296+u2)*M+U0) (hU0:U0<M) (l2:u2<4294967296)
  (hGR:G0*dt+R0=un*4294967296+u1) (hR0l:R0<dt):U<(G0+1)*D:=tX hDe hUe hU0 l2 hGR hR0l
theorem vt {dt un u1 G0 R0:Nat} (hdt:2147483648<=dt) (hun:un<=dt) (l1:u1<4294967296) (hGR:G0*dt+R0=un*4294967296+u1):G0<=4294967297:=by
 rcases Nat.lt_or_ge 4294967297 G0 with h|h
 ·exfalso;have:4294967298*dt<=G0*dt:=Nat.mul_le_mul_right _ h;omega
 exact h
theorem px {U D G U':Nat} (hD:0<D) (h:G=U/D∨G=U/D+1) (he:U'+G*D=U):G=U/D/\U'=U%D:=by
 have h1:=Nat.div_add_mod U D;rw [Nat.mul_comm] at h1;have h2:=Nat.mod_lt U hD;rcases h with h|h
 ·rw [h] at he;exact ⟨h,by omega⟩
 exfalso;rw [h,Nat.add_mul] at he;omega
theorem py {U D G U' P:Nat} (hD:0<D) (h:G=U/D∨G=U/D+1) (hP:U'<P) (he:U'+G*D=U+P):G=U/D+1/\U'+D=P+U%D:=by
 have h1:=Nat.div_add_mod U D;rw [Nat.mul_comm] at h1;rcases h with h|h
 ·exfalso;rw [h] at he;omega
 refine ⟨h,?_⟩;rw [h,Nat.add_mul] at he;omega
theorem de {o:List Nat} {off k d:Nat} (hk:off+k<o.length):((o.set (off+k) d).drop off).take (k+1)=(o.drop off).take k++[d]:=by
 apply List.ext_getElem?;intro i;rcases Nat.lt_trichotomy i k with h|h|h
 ·rw [List.getElem?_append_left (by simp;omega)];simp [show i<k+1 by omega,h,show ¬k=i by omega]
 ·subst h;rw [List.getElem?_append_right (by simp;omega)];simp [hk,show min i (o.length-off)=i by omega]
 rw [List.getElem?_eq_none (by simp;omega),List.getElem?_eq_none (by simp;omega)]
theorem co {o:List Nat} {off k:Nat} (hk:off+k<=o.length):((o.drop off).take k).length=k:=by simp;omega
theorem dg {o:List Nat} {off k:Nat} (hk:off+k<o.length):(o.drop off).take (k+1)=(o.drop off).take k++[o.getD (off+k) 0]:=by
 rw [List.take_succ_eq_append_getElem (by simp;omega)];simp [List.getD,hk]
end Go.Proofs.YtokmkopihhnggaaGreatDoor
end
section
/- Contracts of the kit's shelf, laid at this translation by the kit's own tool: bits.Len32, bits.LeadingZeros32, strings.Compare. -/
namespace Go.Proofs
open Go.Shelf Go.Proofs.Tryz
def Tryz.lays133_ren:Go.Shelf.Ren:=⟨fun|133=>213|128=>203|n=>n,fun|51=>206|3=>3|4=>4|46=>115|5=>5|9=>9|n=>n,fun|n=>n⟩
theorem Tryz.lays133:Go.Proofs.Lays.n133 prog Tryz.lays133_ren:={
 mixed:=by kernel_rfl
 f128:=func203.trans (congrArg some (by kernel_rfl))
 f133:=func213.trans (congrArg some (by kernel_rfl))
 t3:=underlying3
 a3:=Tryz.isAgg3
 z3:=Tryz.sizeOf3
 v3:=Tryz.zeroValue3
 t4:=underlying4
 a4:=Tryz.isAgg4
 z4:=Tryz.sizeOf4
 v4:=Tryz.zeroValue4
 t5:=underlying5
 a5:=Tryz.isAgg5
 z5:=Tryz.sizeOf5
 v5:=Tryz.zeroValue5
 t9:=underlying9
 a9:=Tryz.isAgg9
 z9:=Tryz.sizeOf9
 v9:=Tryz.zeroValue9
 t46:=underlying115
 a46:=Tryz.isAgg115
 z46:=Tryz.sizeOf115
 v46:=Tryz.zeroValue115
 t51:=underlying206
 a51:=Tryz.isAgg206
 z51:=Tryz.sizeOf206
 v51:=Tryz.zeroValue206}
theorem Tryz.bits_LeadingZeros32 (x:Int) (w:World) (h0:0<=x) (h1:x<=4294967295):
  Calls prog 213 #[.int .u32 x] w fun e w'=>e= .returned (.int .i64 (32-(Lib.bitLen x.toNat:Int)))/\w'=w:=Any.bits_LeadingZeros32 Tryz.lays133 x w h0 h1
def Tryz.lays106_ren:Go.Shelf.Ren:=⟨fun|106=>136|213=>170|265=>210|n=>n,fun|9=>9|3=>3|n=>n,fun|n=>n⟩
theorem Tryz.lays106:Go.Proofs.Lays.n106 prog Tryz.lays106_ren:={
 mixed:=by kernel_rfl
 f106:=func136.trans (congrArg some (by kernel_rfl))
 f213:=func170.trans (congrArg some (by kernel_rfl))
 f265:=func210.trans (congrArg some (by kernel_rfl))
 t3:=underlying3
 a3:=Tryz.isAgg3
 z3:=Tryz.sizeOf3
 v3:=Tryz.zeroValue3
 t9:=underlying9
 a9:=Tryz.isAgg9
 z9:=Tryz.sizeOf9
 v9:=Tryz.zeroValue9}
open Go.RowKit in
theorem Tryz.strings_Compare (a b:ByteArray) (w:World):
  Calls prog 136 #[.string a,.string b] w fun e w'=>e= .returned (.int .i64 (Lib.compareBytes a.data.toList b.data.toList))/\w'=w:=Any.strings_Compare Tryz.lays106 a b w
end Go.Proofs
end
namespace Go.Proofs.YtokmkopihhnggaaGreatDoor
open Go.RowKit Go.Proofs.Tryz
theorem mC (w:World) (S:Nat->Prop):aP 1 bk w S [.slice none 0 0] (ae 0):=by
 rw [bK];exact ⟨none,0,rfl,by simp,by unfold maxLen;omega,fun _=>rfl,.inl rfl⟩
theorem ka {y:Nat} (h:(ae y).length=1):ae y=[y]/\0<y/\y<4294967296:=by
 have h1:=ao y;have h2:=bl y;match hl:ae y,h with
 |[z],_=>
  rw [hl] at h1 h2;simp only [ac] at h1;have h3:=h2 z (by simp);refine ⟨by simp;omega,?_,by omega⟩;rcases Nat.eq_zero_or_pos y with h0|h0
  ·subst h0;rw [bK] at hl;cases hl
  exact h0
theorem Bu (S:Nat->Prop) (u v:Value) (x y:Nat) (w:World) (hS:∀b,S b->b<w.heap.size) (hxy:x<y) (hu:aP 1 bk w S [u] (ae x)) (hv:aP 1 bk w S [v] (ae y)):
  Calls prog 174 #[u,v] w fun e w'=>∃q r,e= .returned (.tuple #[q,r])/\aP 1 bk w' (LT w'.heap.size) [q] (ae (x/y))/\aP 1 bk w' (LT w'.heap.size) [r] (ae (x%y))/\Below w.heap.size w w':=by
 have hc:=gj S u v x y w hS hu hv;rw [fx hxy] at hc;have HC:=hid hc;clear hc;go_enter func174,ntmps174
 go_wp2_with fail
 refine Calls.mono HC.out ?_;rintro e w1 ⟨rfl,hb1⟩;go_wp2
 go_ret2
 refine ⟨_,_,rfl,?_,?_,hb1⟩
 ·rw [Nat.div_eq_of_lt hxy];exact mC _ _
 rw [Nat.mod_eq_of_lt hxy];exact (aY aV) _ _ _ _ _ _ hu (fun b hb=>hb1.block b (hS b hb)) fun b hb=>Nat.lt_of_lt_of_le (hS b hb) hb1.size
theorem tY (S:Nat->Prop) (u v:Value) (x y:Nat) (w:World) (hS:∀b,S b->b<w.heap.size) (hl:(ae x).length<=1000000000000) (hxy:y<=x) (hy1:(ae y).length=1) (hu:aP 1 bk w S [u] (ae x)) (hv:aP 1 bk w S [v] (ae y)):
  Calls prog 174 #[u,v] w fun e w'=>∃q r,e= .returned (.tuple #[q,r])/\aP 1 bk w' (LT w'.heap.size) [q] (ae (x/y))/\aP 1 bk w' (LT w'.heap.size) [r] (ae (x%y))/\Below w.heap.size w w':=by
 obtain ⟨ey,hy0,hyW⟩:=ka hy1;have hc:=gj S u v x y w hS hu hv;have hcn:¬bB x y<0:=by unfold bB;rw [if_neg (by omega)];split<;>omega
 have HC:=hid hc;clear hc;have hv':=hv;have hu':=hid hu;have hvx:=hid (ao x);rw [ey] at hv';obtain ⟨va,vc,rfl,v1,v2,v3,v4⟩:=aW hv';rcases v4 with v4|⟨vb,voff,rfl,v4⟩
 ·cases v4
 have g0:=(v4.u32 (j:=0) (by simp)).1;have hvS:=hS vb v4.1;simp only [List.getElem_cons_zero,Nat.add_zero] at g0;have hsz:([y]:List Nat).length=1:=rfl;clear hv hv' ey;go_enter func174,ntmps174
 go_wp2_with fail
 refine Calls.mono HC.out ?_;rintro e w1 ⟨rfl,hb1⟩;rw [←hb1.cell (p:=⟨vb,voff,none⟩) hvS] at g0;have hu1:aP 1 bk w1 (LT w1.heap.size) [u] (ae x):=(aY aV) _ _ _ _ _ _ hu'.out (fun b hb=>hb1.block b (hS b hb)) fun b hb=>Nat.lt_of_lt_of_le (hS b hb) hb1.size
 have HD:=hid (oV _ _ _ y _ (fun _ h=>h) hl hy0 hyW hu1);rw [hvx.out] at HD;have hxm:x%y<4294967296:=Nat.lt_of_lt_of_le (Nat.mod_lt _ hy0) (by omega);go_wp2_with fail
 refine Calls.mono HD.out ?_;rintro e w2 ⟨q,rfl,hq,hb2⟩;have hO:OwnL (w2.alloc (.cells #[.int .u32 ((x%y:Nat):Int)] 206)) w2.heap.size 1 [x%y]:=by
  refine ⟨rfl,fun z hz=>by simp at hz;omega,fun j=> .int .u32 (([x%y]:List Nat).getD j 0:Nat),?_,fun j=>rfl⟩;have:=Own.new w2 206 1 (fun j=> .int .u32 (([x%y]:List Nat).getD j 0:Nat));have e:(Array.range 1).map (fun j=>Value.int .u32 (([x%y]:List Nat).getD j 0:Nat))= #[.int .u32 ((x%y:Nat):Int)]:=by
   apply Array.ext';simp [List.range_succ]
  rw [e] at this;exact this
 have hT:=iY _ _ _ _ (hO.slice (by omega));have e1:ac [x%y]=x%y:=by simp [ac]
 rw [e1] at hT;have HT:=hid hT;have hb3:Below w2.heap.size w2 (w2.alloc (.cells #[.int .u32 ((x%y:Nat):Int)] 206)):=(Below.refl _ _).alloc (Nat.le_refl _) _;clear hT e1 hO hu1;go_wp2_with fail
 refine Calls.mono HT.out ?_;rintro e w3 ⟨r,rfl,rfl,hr⟩;go_wp2
 go_ret2
 exact ⟨_,_,rfl,(aY aV).below hq hb3 hb3.size,hr,hb1.step (hb2.step hb3)⟩
theorem xY (S:Nat->Prop) (u v:Value) (x y:Nat) (w:World) (hS:∀b,S b->b<w.heap.size) (hxy:x<y) (hu:aP 1 bk w S [u] (ae x)) (hv:aP 1 bk w S [v] (ae y)):
  Calls prog 218 #[u,v] w fun e w'=>∃q r,e= .returned (.tuple #[q,r])/\aP 1 bk w' (LT w'.heap.size) [q] (ae (x/y))/\aP 1 bk w' (LT w'.heap.size) [r] (ae (x%y))/\Below w.heap.size w w':=by
 have hc:=kV S u v x y w hS hu hv;rw [fx hxy] at hc;have HC:=hid hc;clear hc;go_enter func218,ntmps218
 go_wp2_with fail
 refine Calls.mono HC.out ?_;rintro e w1 ⟨rfl,hb1⟩;go_wp2
 go_ret2
 refine ⟨_,_,rfl,?_,?_,hb1⟩
 ·rw [Nat.div_eq_of_lt hxy];exact mC _ _
 rw [Nat.mod_eq_of_lt hxy];exact (aY aV) _ _ _ _ _ _ hu (fun b hb=>hb1.block b (hS b hb)) fun b hb=>Nat.lt_of_lt_of_le (hS b hb) hb1.size
theorem rN (S:Nat->Prop) (u v:Value) (x y:Nat) (w:World) (hS:∀b,S b->b<w.heap.size) (hl:(ae x).length<=1000000000000) (hxy:y<=x) (hy1:(ae y).length=1) (hu:aP 1 bk w S [u] (ae x)) (hv:aP 1 bk w S [v] (ae y)):
  Calls prog 218 #[u,v] w fun e w'=>∃q r,e= .returned (.tuple #[q,r])/\aP 1 bk w' (LT w'.heap.size) [q] (ae (x/y))/\aP 1 bk w' (LT w'.heap.size) [r] (ae (x%y))/\Below w.heap.size w w':=by
 obtain ⟨ey,hy0,hyW⟩:=ka hy1;have hc:=kV S u v x y w hS hu hv;have hcn:¬bB x y<0:=by unfold bB;rw [if_neg (by omega)];split<;>omega
 have HC:=hid hc;clear hc;have hv':=hv;have hu':=hid hu;have hvx:=hid (ao x);rw [ey] at hv';obtain ⟨va,vc,rfl,v1,v2,v3,v4⟩:=aW hv';rcases v4 with v4|⟨vb,voff,rfl,v4⟩
 ·cases v4
 have g0:=(v4.u32 (j:=0) (by simp)).1;have hvS:=hS vb v4.1;simp only [List.getElem_cons_zero,Nat.add_zero] at g0;have hsz:([y]:List Nat).length=1:=rfl;clear hv hv' ey;go_enter func218,ntmps218
 go_wp2_with fail
 refine Calls.mono HC.out ?_;rintro e w1 ⟨rfl,hb1⟩;rw [←hb1.cell (p:=⟨vb,voff,none⟩) hvS] at g0;have hu1:aP 1 bk w1 (LT w1.heap.size) [u] (ae x):=(aY aV) _ _ _ _ _ _ hu'.out (fun b hb=>hb1.block b (hS b hb)) fun b hb=>Nat.lt_of_lt_of_le (hS b hb) hb1.size
 have HD:=hid (Bq _ _ _ y _ (fun _ h=>h) hl hy0 hyW hu1);rw [hvx.out] at HD;have hxm:x%y<4294967296:=Nat.lt_of_lt_of_le (Nat.mod_lt _ hy0) (by omega);go_wp2_with fail
 refine Calls.mono HD.out ?_;rintro e w2 ⟨q,rfl,hq,hb2⟩;have hO:OwnL (w2.alloc (.cells #[.int .u32 ((x%y:Nat):Int)] 206)) w2.heap.size 1 [x%y]:=by
  refine ⟨rfl,fun z hz=>by simp at hz;omega,fun j=> .int .u32 (([x%y]:List Nat).getD j 0:Nat),?_,fun j=>rfl⟩;have:=Own.new w2 206 1 (fun j=> .int .u32 (([x%y]:List Nat).getD j 0:Nat));have e:(Array.range 1).map (fun j=>Value.int .u32 (([x%y]:List Nat).getD j 0:Nat))= #[.int .u32 ((x%y:Nat):Int)]:=by
   apply Array.ext';simp [List.range_succ]
  rw [e] at this;exact this
 have hT:=fU _ _ _ _ (hO.slice (by omega));have e1:ac [x%y]=x%y:=by simp [ac]
 rw [e1] at hT;have HT:=hid hT;have hb3:Below w2.heap.size w2 (w2.alloc (.cells #[.int .u32 ((x%y:Nat):Int)] 206)):=(Below.refl _ _).alloc (Nat.le_refl _) _;clear hT e1 hO hu1;go_wp2_with fail
 refine Calls.mono HT.out ?_;rintro e w3 ⟨r,rfl,rfl,hr⟩;go_wp2
 go_ret2
 exact ⟨_,_,rfl,(aY aV).below hq hb3 hb3.size,hr,hb1.step (hb2.step hb3)⟩
theorem mD {w w':World} {g:Nat} (h:w.grownBy w' (some g)) (p:Nat) (v:Value):w.grownBy (w'.setCell ⟨g,p,none⟩ v) (some g):=
 ⟨h.os,h.tape,h.output,by simpa using h.size,fun k hk hne=>by rw [Below.heap_setCell _ _ _ _ (fun e=>hne (by rw [e]))];exact h.block k hk hne⟩
theorem fj {w w':World} {r:Option Nat} (h:w.grownBy w' r) (n:Nat):w.grownBy (w'.drewN n) r:=⟨h.os,h.tape,h.output,h.size,h.block⟩
theorem kW {w w':World} {g b:Nat} (h:w.grownBy w' (some g)) (hb:b<w.heap.size) (hne:b≠g) (o:Nat):w'.cell? ⟨b,o,none⟩=w.cell? ⟨b,o,none⟩:=
 World.cell?_of_block (h.block b hb (fun e=>hne (Option.some.inj e)))
theorem OwnL.drewN {w:World} {g n:Nat} {o:List Nat} (h:OwnL w g n o) (k:Nat):OwnL (w.drewN k) g n o:=h
theorem CN (S : Nat → Prop) (v : Value) (ds o : List Nat) (g off N cap n : Nat) (w : World) (hS : ∀ b, S b → b < w.heap.size ∧ b ≠ g) (hN : N ≤ 1000000000000) (hn2 : 2 ≤ n) (hdl : ds.length = n) (hoff : off + n < N) (hcap : n + 1 ≤ cap)
    (hv : aP 1 bk w S [v] ds) (hown : OwnL w g N o) (htop : 2147483648 ≤ ds.getD (n - 1) 0) (hU : ac ((o.drop off).take (n + 1)) < 4294967296 * ac ds) :
    Calls prog 215 #[.slice (some ⟨g, off, none⟩) (n + 1) cap, v] w fun e w' => ∃ o', e = .returned (.int .u32 ((ac ((o.drop off).take (n + 1)) / ac ds : Nat) : Int)) ∧ OwnL w' g N o' ∧
      (∀ j, j < off ∨ off + n < j → o'.getD j 0 = o.getD j 0) ∧ ac ((o'.drop off).take (n + 1)) = ac ((o.drop off).take (n + 1)) % ac ds ∧ w.grownBy w' (some g) := by
  have hdlt := hid (f8 hv)
  obtain ⟨da, dc, rfl, x1, x2, x3, x4⟩ := aW hv
  rcases x4 with rfl | ⟨db, doff, rfl, x4⟩
  · simp at hdl; omega
  rw [hdl]
  have n1 : (n : Int) - 1 = ((n - 1 : Nat) : Int) := by omega
  have n2 : (n : Int) - 2 = ((n - 2 : Nat) : Int) := by omega
  have hol := hown.1
  have hw0 : off + n < o.length := by omega
  have hw1 : off + (n - 1) < o.length := by omega
  have hw2 : off + (n - 2) < o.length := by omega
  have c0 := hown.cell hw0
  have c1 := hown.cell hw1
  have c2 := hown.cell hw2
  have hd1 : n - 1 < ds.length := by omega
  have hd2 : n - 2 < ds.length := by omega
  have k1 := (x4.u32 hd1).1
  have k2 := (x4.u32 hd2).1
  obtain ⟨un, hun⟩ : ∃ x, x = o[off + n] := ⟨_, rfl⟩
  obtain ⟨u1, hu1⟩ : ∃ x, x = o[off + (n - 1)] := ⟨_, rfl⟩
  obtain ⟨u2, hu2⟩ : ∃ x, x = o[off + (n - 2)] := ⟨_, rfl⟩
  obtain ⟨dt, hdt⟩ : ∃ x, x = ds[n - 1] := ⟨_, rfl⟩
  obtain ⟨d2, hd2'⟩ : ∃ x, x = ds[n - 2] := ⟨_, rfl⟩
  have l0 : un < 4294967296 := by rw [hun]; exact hown.2.1 _ (List.getElem_mem hw0)
  have l1 : u1 < 4294967296 := by rw [hu1]; exact hown.2.1 _ (List.getElem_mem hw1)
  have l2 : u2 < 4294967296 := by rw [hu2]; exact hown.2.1 _ (List.getElem_mem hw2)
  have l3 : dt < 4294967296 := by rw [hdt]; exact hdlt.out _ (List.getElem_mem hd1)
  have l4 : d2 < 4294967296 := by rw [hd2']; exact hdlt.out _ (List.getElem_mem hd2)
  have htop' : 2147483648 ≤ dt := by simpa [List.getD, hd1, ← hdt] using htop
  rw [← hun] at c0
  rw [← hu1] at c1
  rw [← hu2] at c2
  rw [← hdt] at k1
  rw [← hd2'] at k2
  have o1 := g9 un u1 l0 l1
  obtain ⟨G0, hG0⟩ : ∃ G : Nat, G = (un * 4294967296 + u1) / dt := ⟨_, rfl⟩
  obtain ⟨R0, hR0⟩ : ∃ R : Nat, R = (un * 4294967296 + u1) % dt := ⟨_, rfl⟩
  have hGR : G0 * dt + R0 = un * 4294967296 + u1 := by rw [hG0, hR0, Nat.mul_comm]; exact Nat.div_add_mod _ _
  have hR0l : R0 < dt := by rw [hR0]; exact Nat.mod_lt _ (by omega)
  have eT : ((un * 4294967296 + u1 : Nat) : Int) = (un : Int) * 4294967296 + (u1 : Int) := by omega
  have q1 : ((un : Int) * 4294967296 + (u1 : Int)) / (dt : Int) = (G0 : Int) := by rw [hG0, Int.natCast_ediv, eT]
  have q2 : ((un : Int) * 4294967296 + (u1 : Int)) % (dt : Int) = (R0 : Int) := by rw [hR0, Int.natCast_emod, eT]
  clear eT
  have Hun := hid hun
  have Hu1 := hid hu1
  have Hu2 := hid hu2
  have Hdt := hid hdt
  have Hd2 := hid hd2'
  have HGR := hid hGR
  have HU := hid hU
  have Hol := hid hol
  have Hdl := hid hdl
  obtain ⟨D, hD⟩ : ∃ D, D = ac ds := ⟨_, rfl⟩
  obtain ⟨U, hUU⟩ : ∃ U, U = ac ((o.drop off).take (n + 1)) := ⟨_, rfl⟩
  have hM : ∃ M D0 U0, 0 < M ∧ D0 < M ∧ U0 < M ∧ D = (dt * 4294967296 + d2) * M + D0 ∧ U = ((un * 4294967296 + u1) * 4294967296 + u2) * M + U0 := by
    obtain ⟨D0, h1, h2⟩ := pv hdlt.out (n - 2) (by omega)
    obtain ⟨U0, h3, h4⟩ := pw (xs := (o.drop off).take (n + 1)) (fun x hx => hown.2.1 x (List.mem_of_mem_drop (List.mem_of_mem_take hx))) (n - 2) (by simp; omega)
    refine ⟨4294967296 ^ (n - 2), D0, U0, nA _, h1, h3, ?_, ?_⟩
    · rw [hD, h2, show n - 2 + 1 = n - 1 by omega]
      simp [List.getD, hd1, hd2, ← hdt, ← hd2']
    rw [hUU, h4, show n - 2 + 1 = n - 1 by omega, show n - 2 + 2 = n by omega]
    have g0 : ((o.drop off).take (n + 1)).getD n 0 = un := by simp [List.getD, hw0, ← hun]
    have g1 : ((o.drop off).take (n + 1)).getD (n - 1) 0 = u1 := by simp [List.getD, hw1, ← hu1, show n - 1 < n + 1 by omega]
    have g2 : ((o.drop off).take (n + 1)).getD (n - 2) 0 = u2 := by simp [List.getD, hw2, ← hu2, show n - 2 < n + 1 by omega]
    rw [g0, g1, g2]
  rw [← hD, ← hUU] at hU HU
  rw [← hD, ← hUU]
  obtain ⟨M, D0, U0, hM0, hD0, hU0, hDe, hUe⟩ := hM
  have hun_le : un ≤ dt := vp hDe hUe hD0 l4 hU
  have hG0l : G0 ≤ 4294967297 := vt htop' hun_le l1 hGR
  have hGU : U < (G0 + 1) * D := oD hDe hUe hU0 l2 hGR hR0l
  have hDpos : 0 < D := by
    rw [hDe]
    have : 1 * M ≤ (dt * 4294967296 + d2) * M := Nat.mul_le_mul_right _ (by omega)
    omega
  have HdecL := hid (fun G R h hg => sj (G := G) (R := R) hDe hUe hU0 h hg)
  have HexitL := hid (fun G R h hg hG => pu (G := G) (R := R) hDe hUe hD0 hU0 (by omega) h hg hG)
  have HD := hid hD
  have HUU := hid hUU
  have HGU := hid hGU
  have HU' := hid hU
  clear hun hu1 hu2 hdt hd2' hGR hG0 hR0 hU hol hdl htop hD hUU hDe hUe hGU hM0 hD0 hU0 HU
  go_enter func215, ntmps215
  go_wp2
  go_quiet (fail)
  go_wp2
  go_quiet (fail)
  go_upto_block 0 with fail
  go_cut [7, 8] (fun s7 _ wx => ∃ G : Nat, s7 = .int .u64 G ∧ G ≤ 4294967296 ∧ Hid (U < (G + 1) * D) ∧ Hid (G * D ≤ U + D) ∧ OwnL wx g N o ∧ w.grownBy wx (some g))
  case first =>
    go_wp2_with fail
    go_loopw [7, 8] (fun s7 s8 wr => ∃ G R : Nat, s7 = .int .u64 G ∧ s8 = .int .u64 R ∧ Hid (G * dt + R = un * 4294967296 + u1) ∧ R < 4294967296 ∧ G ≤ 4294967297 ∧ Hid (U < (G + 1) * D) ∧ OwnL wr g N o ∧ w.grownBy wr (some g)) (fun s7 _ _ => (intOf s7).toNat)
    case atStart => exact ⟨G0, R0, by rw [q1], by rw [q2], HGR, by omega, hG0l, HGU, hown, fj (fj (World.grownBy.refl _ _) _) _⟩
    case round =>
      clear c0 c1 c2 k1 k2 hown
      obtain ⟨G, R, rfl, rfl, HG, hR, hGl, HGu, hown, hgr⟩ := hrel
      have k1 := (x4.u32 hd1).1
      have k2 := (x4.u32 hd2).1
      rw [← kW hgr (hS _ x4.1).1 (hS _ x4.1).2, ← Hdt.out] at k1
      rw [← kW hgr (hS _ x4.1).1 (hS _ x4.1).2, ← Hd2.out] at k2
      have c2 := hown.cell hw2
      rw [← Hu2.out] at c2
      by_cases hA : 4294967296 ≤ G
      · have dA : decide ((4294967296 : Int) ≤ (G : Int)) = true := by simp; omega
        have HG0 := hid (show 0 < G by omega)
        have HLT := hid (show U < G * D from Nat.lt_of_lt_of_le HU'.out (Nat.mul_le_mul_right _ hA))
        have e1 : IntKind.u64.wrap ((G : Int) - 1) = ((G - 1 : Nat) : Int) := by
          have : (G : Int) - 1 = ((G - 1 : Nat) : Int) := by omega
          rw [this]; exact IntWalk.u64_in _ (by omega)
        have e2 : IntKind.u64.wrap ((R : Int) + (dt : Int)) = (R : Int) + (dt : Int) := IntWalk.u64_in _ (by omega)
        have hq : Hid (U < (G - 1 + 1) * D) := by show U < (G - 1 + 1) * D; rw [show G - 1 + 1 = G by omega]; exact HLT.out
        have hgr2 : Hid ((G - 1) * dt + (R + dt) = un * 4294967296 + u1) := by
          show (G - 1) * dt + (R + dt) = un * 4294967296 + u1
          rw [← HG.out]
          have : G * dt = (G - 1) * dt + dt := by conv => lhs; rw [show G = G - 1 + 1 by omega, Nat.add_mul, Nat.one_mul]
          omega
        have hG1 : G - 1 ≤ 4294967296 := by omega
        by_cases hB : 4294967296 ≤ R + dt
        · have dB : decide ((4294967296 : Int) ≤ (R : Int) + (dt : Int)) = true := by simp; omega
          have hex : Hid ((G - 1) * D ≤ U + D) := HexitL.out (G - 1) (R + dt) hgr2.out (by
            have h1 : (G - 1) * d2 ≤ 4294967296 * 4294967296 := Nat.mul_le_mul hG1 (by omega)
            have h2 : 4294967296 * 4294967296 ≤ (R + dt) * 4294967296 := Nat.mul_le_mul_right _ hB
            omega) hG1
          have HB := hid hB
          clear hA hGl hB
          go_wp2
          go_quiet (fail)
          go_upto_region 7 with fail
          go_wp2
          go_meet
          case rel => exact ⟨G - 1, rfl, hG1, hq, hex, hown.drewN _, fj hgr _⟩
        have dB : decide ((4294967296 : Int) ≤ (R : Int) + (dt : Int)) = false := by simp; omega
        have HB := hid hB
        have hRd : R + dt < 4294967296 := by omega
        have HRd := hid hRd
        clear hA hGl hB hRd
        go_wp2
        go_quiet (fail)
        go_upto_region 7 with fail
        go_wp2
        go_roundw
        case rel => exact ⟨G - 1, R + dt, rfl, by go_num, hgr2, HRd.out, by have := hG1; omega, hq, hown.drewN _, fj hgr _⟩
        case measure => have := HG0.out; simp [intOf]; omega
      have dA : decide ((4294967296 : Int) ≤ (G : Int)) = false := by simp; omega
      have hGl' : G < 4294967296 := by omega
      have hmb := tV hGl' l4
      have e3 : IntKind.u64.wrap ((G : Int) * (d2 : Int)) = (G : Int) * (d2 : Int) := IntWalk.u64_in _ (by rw [← Int.natCast_mul]; omega)
      have o2 := g9 R u2 hR l2
      by_cases hC : R * 4294967296 + u2 < G * d2
      · have dC : decide ((R : Int) * 4294967296 + (u2 : Int) < (G : Int) * (d2 : Int)) = true := by rw [← Int.natCast_mul]; simp; omega
        have HG0 := hid (show 0 < G by rcases Nat.eq_zero_or_pos G with h | h; · subst h; omega
                                       exact h)
        have HLT := hid (HdecL.out G R HG.out hC)
        have HG00 := HG0.out
        have e1 : IntKind.u64.wrap ((G : Int) - 1) = ((G - 1 : Nat) : Int) := by
          have : (G : Int) - 1 = ((G - 1 : Nat) : Int) := by omega
          rw [this]; exact IntWalk.u64_in _ (by omega)
        have e2 : IntKind.u64.wrap ((R : Int) + (dt : Int)) = (R : Int) + (dt : Int) := IntWalk.u64_in _ (by omega)
        have hq : Hid (U < (G - 1 + 1) * D) := by show U < (G - 1 + 1) * D; rw [show G - 1 + 1 = G by omega]; exact HLT.out
        have hgr2 : Hid ((G - 1) * dt + (R + dt) = un * 4294967296 + u1) := by
          show (G - 1) * dt + (R + dt) = un * 4294967296 + u1
          rw [← HG.out]
          have : G * dt = (G - 1) * dt + dt := by conv => lhs; rw [show G = G - 1 + 1 by omega, Nat.add_mul, Nat.one_mul]
          omega
        have hG1 : G - 1 ≤ 4294967296 := by omega
        by_cases hB : 4294967296 ≤ R + dt
        · have dB : decide ((4294967296 : Int) ≤ (R : Int) + (dt : Int)) = true := by simp; omega
          have hex : Hid ((G - 1) * D ≤ U + D) := HexitL.out (G - 1) (R + dt) hgr2.out (by
            have h1 : (G - 1) * d2 ≤ 4294967296 * 4294967296 := Nat.mul_le_mul hG1 (by omega)
            have h2 : 4294967296 * 4294967296 ≤ (R + dt) * 4294967296 := Nat.mul_le_mul_right _ hB
            omega) hG1
          have HB := hid hB
          clear hA hGl hB hmb hC hGl'
          go_wp2
          go_quiet (fail)
          go_upto_region 7 with fail
          go_wp2
          go_meet
          case rel => exact ⟨G - 1, rfl, hG1, hq, hex, hown.drewN _, fj hgr _⟩
        have dB : decide ((4294967296 : Int) ≤ (R : Int) + (dt : Int)) = false := by simp; omega
        have HB := hid hB
        have hRd : R + dt < 4294967296 := by omega
        have HRd := hid hRd
        clear hA hGl hB hRd hmb hC hGl'
        go_wp2
        go_quiet (fail)
        go_upto_region 7 with fail
        go_wp2
        go_roundw
        case rel => exact ⟨G - 1, R + dt, rfl, by go_num, hgr2, HRd.out, by have := hG1; omega, hq, hown.drewN _, fj hgr _⟩
        case measure => have := HG0.out; simp [intOf]; omega
      have dC : decide ((R : Int) * 4294967296 + (u2 : Int) < (G : Int) * (d2 : Int)) = false := by rw [← Int.natCast_mul]; simp; omega
      have hex : Hid (G * D ≤ U + D) := HexitL.out G R HG.out (by omega) (by omega)
      have hG1 : G ≤ 4294967296 := by omega
      have HG1 := hid hG1
      clear hA hGl hC hmb hGl' hG1
      go_wp2
      go_quiet (fail)
      go_wp2
      go_meet
      case rel => exact ⟨G, rfl, HG1.out, HGu, hex, hown.drewN _, fj hgr _⟩
  case rest =>
    obtain ⟨G, rfl, hG, HGu, HGe, hownc, hgrc⟩ := hcut
    clear c0 c1 c2 k1 k2 q1 q2 o1
    have H2 := hid (sl hDpos HGu.out HGe.out)
    go_wp2
    go_loopw [9, 10, 11, 12, 13, 84] (fun c b _ _ _ i wr => ∃ (k c' b' : Nat) (o' : List Nat), k ≤ n ∧ i = .int .i64 k ∧ c = .int .u64 c' ∧ c' < 4294967296 ∧ b = .int .u32 b' ∧ b' ≤ 1 ∧ OwnL wr g N o' ∧ w.grownBy wr (some g) ∧ Hid (∀ j, (j < off ∨ off + k ≤ j) → o'.getD j 0 = o.getD j 0) ∧
      Hid (ac ((o'.drop off).take k) + G * ac (ds.take k) = ac ((o.drop off).take k) + 4294967296 ^ k * (b' + c'))) (fun _ _ _ _ _ i _ => n - (intOf i).toNat)
    case atStart => exact ⟨0, 0, 0, o, by omega, rfl, rfl, by omega, rfl, by omega, hownc, hgrc, fun j _ => rfl, by simp [Hid, ac]⟩
    case round =>
      obtain ⟨k, c', b', o', hk, rfl, rfl, hc', rfl, hb', hown', hgr, HO, HE⟩ := hrel
      have hol' := hown'.1
      by_cases hlt : k < n
      · as_aux_lemma =>
          have hlt' : k < ds.length := by have := Hdl.out; omega
          obtain ⟨f0, f1⟩ := x4.u32 hlt'
          rw [← kW hgr (hS _ x4.1).1 (hS _ x4.1).2] at f0
          have HT := hid (bx ds k hlt')
          obtain ⟨v, hv⟩ : ∃ v, v = ds[k] := ⟨_, rfl⟩
          rw [← hv] at f0 f1 HT
          clear hv
          have hko : off + k < o'.length := by omega
          have c1 := hown'.cell hko
          have c2 := hown'.frozen (off + k)
          obtain ⟨u, hu⟩ : ∃ u, u = o'[off + k] := ⟨_, rfl⟩
          have hu' : u < 4294967296 := by rw [hu]; exact hown'.2.1 _ (List.getElem_mem hko)
          have HUo := hid (show o.getD (off + k) 0 = u by rw [← HO.out (off + k) (.inr (by omega)), hu]; simp [List.getD, hko])
          rw [← hu] at c1
          clear hu
          have HTk := hid (fun d => de (o := o') (off := off) (k := k) (d := d) hko)
          obtain ⟨lo, hlo⟩ : ∃ t : Nat, t = (G * v + c') % 4294967296 := ⟨_, rfl⟩
          obtain ⟨hi, hhi⟩ : ∃ t : Nat, t = (G * v + c') / 4294967296 := ⟨_, rfl⟩
          have hmb : G * v ≤ 4294967296 * 4294967295 := Nat.mul_le_mul hG (by omega)
          have hlh : lo + 4294967296 * hi = G * v + c' := by omega
          have hlo' : lo < 4294967296 := by omega
          have hhi' : hi < 4294967296 := by omega
          have e1 : IntKind.u64.wrap ((G : Int) * (v : Int)) = (G : Int) * (v : Int) := IntWalk.u64_in _ (by rw [← Int.natCast_mul]; omega)
          have e2 : IntKind.u64.wrap ((G : Int) * (v : Int) + (c' : Int)) = (G : Int) * (v : Int) + (c' : Int) := IntWalk.u64_in _ (by rw [← Int.natCast_mul]; omega)
          have elo : ((G : Int) * (v : Int) + (c' : Int)) % 4294967296 = (lo : Int) := by rw [← Int.natCast_mul]; omega
          have ehi : ((G : Int) * (v : Int) + (c' : Int)) / 4294967296 = (hi : Int) := by rw [← Int.natCast_mul]; omega
          obtain ⟨d, hd⟩ : ∃ d : Nat, (d : Int) = ((u : Int) - (lo : Int) - (b' : Int)) % 4294967296 := ⟨(((u : Int) - (lo : Int) - (b' : Int)) % 4294967296).toNat, by omega⟩
          obtain ⟨e, he⟩ : ∃ e : Nat, (e : Int) = dp (u : Int) (lo : Int) (b' : Int) := ⟨(dp (u : Int) (lo : Int) (b' : Int)).toNat, by have := ez (u : Int) (lo : Int) (b' : Int); omega⟩
          have hde : d + lo + b' = u + 4294967296 * e := by unfold dp at he; split at he <;> omega
          have hd1' : d < 4294967296 := by omega
          have he1 : e ≤ 1 := by have := ez (u : Int) (lo : Int) (b' : Int); omega
          have HA := hid (fun W => kQ (u : Int) (lo : Int) (b' : Int) W (by omega) (by omega) (by omega) (by omega) (by omega) (by omega))
          rw [← hd, ← he] at HA
          have HDE := hid hde
          have HLH := hid hlh
          clear hd he hde hlh hmb hlo hhi
          go_wp2_with fail
          refine Calls.mono (HA.out _) ?_
          rintro e' w3 ⟨rfl, rfl⟩
          clear HA e1 e2 elo
          go_wp2
          go_roundw
          case rel =>
            refine ⟨k + 1, hi, e, o'.set (off + k) d, by omega, by go_num, rfl, hhi', rfl, he1, hown'.set hko hd1', mD hgr _ _, fun j hj => ?_, ?_⟩
            · rw [← HO.out j (by omega)]
              simp [List.getD, show ¬ off + k = j by omega]
            show ac (((o'.set (off + k) d).drop off).take (k + 1)) + G * ac (ds.take (k + 1)) = ac ((o.drop off).take (k + 1)) + 4294967296 ^ (k + 1) * (e + hi)
            have h1 := HE.out
            rw [HTk.out, aR, co (by omega), HT.out, dg (by have := Hol.out; omega), aR, co (by have := Hol.out; omega), HUo.out, Nat.mul_add, Nat.pow_succ, Nat.mul_assoc, Nat.mul_left_comm G]
            have h2 : 4294967296 ^ k * d + 4294967296 ^ k * (G * v) + 4294967296 ^ k * (b' + c') = 4294967296 ^ k * u + 4294967296 ^ k * (4294967296 * (e + hi)) := by
              rw [← Nat.mul_add, ← Nat.mul_add, ← Nat.mul_add]
              congr 1
              have := HDE.out
              have := HLH.out
              omega
            omega
          case measure => simp [intOf]; omega
      have hkn : k = n := by omega
      have hko : off + n < o'.length := by omega
      have c1 := hown'.cell hko
      have c2 := hown'.frozen (off + n)
      obtain ⟨u, hu⟩ : ∃ u, u = o'[off + n] := ⟨_, rfl⟩
      have hu' : u < 4294967296 := by rw [hu]; exact hown'.2.1 _ (List.getElem_mem hko)
      have huo : o.getD (off + n) 0 = u := by rw [← HO.out (off + n) (.inr (by omega)), hu]; simp [List.getD, hko]
      rw [← hu] at c1
      clear hu
      obtain ⟨d, hd⟩ : ∃ d : Nat, (d : Int) = ((u : Int) - (c' : Int) - (b' : Int)) % 4294967296 := ⟨(((u : Int) - (c' : Int) - (b' : Int)) % 4294967296).toNat, by omega⟩
      obtain ⟨e, he⟩ : ∃ e : Nat, (e : Int) = dp (u : Int) (c' : Int) (b' : Int) := ⟨(dp (u : Int) (c' : Int) (b' : Int)).toNat, by have := ez (u : Int) (c' : Int) (b' : Int); omega⟩
      have hde : d + c' + b' = u + 4294967296 * e := by unfold dp at he; split at he <;> omega
      have hd1' : d < 4294967296 := by omega
      have he1 : e ≤ 1 := by have := ez (u : Int) (c' : Int) (b' : Int); omega
      have HA := hid (fun W => kQ (u : Int) (c' : Int) (b' : Int) W (by omega) (by omega) (by omega) (by omega) (by omega) (by omega))
      rw [← hd, ← he] at HA
      have hds : ds.take k = ds := List.take_of_length_le (by have := Hdl.out; omega)
      have hfin : ac (((o'.set (off + n) d).drop off).take (n + 1)) + G * D = U + 4294967296 ^ (n + 1) * e := by
        have h1 := HE.out
        rw [hds, ← HD.out, hkn] at h1
        rw [de hko, aR, co (by omega), HUU.out, dg (by have := Hol.out; omega), aR, co (by have := Hol.out; omega), huo, Nat.pow_succ, Nat.mul_assoc]
        have h2 : 4294967296 ^ n * d + 4294967296 ^ n * (b' + c') = 4294967296 ^ n * u + 4294967296 ^ n * (4294967296 * e) := by
          rw [← Nat.mul_add, ← Nat.mul_add]
          congr 1
          omega
        omega
      have hout : ∀ j, j < off ∨ off + n < j → (o'.set (off + n) d).getD j 0 = o.getD j 0 := fun j hj => by
        rw [← HO.out j (by omega)]
        simp [List.getD, show ¬ off + n = j by omega]
      have hPlt : ac (((o'.set (off + n) d).drop off).take (n + 1)) < 4294967296 ^ (n + 1) := by
        have hlen : (((o'.set (off + n) d).drop off).take (n + 1)).length = n + 1 := co (by simp; omega)
        have := a7 (xs := ((o'.set (off + n) d).drop off).take (n + 1)) (fun x hx => (hown'.set hko hd1').2.1 x (List.mem_of_mem_drop (List.mem_of_mem_take hx)))
        rwa [hlen] at this
      have HF := hid hfin
      have HOut := hid hout
      have HP := hid hPlt
      have hown2 := hown'.set hko hd1'
      have hgr2 := mD hgr (off + n) (.int .u32 d)
      obtain ⟨o2, ho2⟩ : ∃ o2, o2 = o'.set (off + n) d := ⟨_, rfl⟩
      have hl2' : o2.length = N := by rw [ho2]; simp [hol']
      have HL2 := hid hl2'
      clear hl2'
      rw [← ho2] at HF HOut HP hown2
      clear hd he hde hfin hout hPlt hds huo hkn ho2 hown'
      have hq32 : U / D < 4294967296 := Nat.div_lt_of_lt_mul (by rw [Nat.mul_comm]; exact HU'.out)
      by_cases hez : e = 0
      · as_aux_lemma =>
          subst hez
          have h0 := HF.out
          rw [Nat.mul_zero, Nat.add_zero] at h0
          have HQ := hid (px hDpos H2.out h0)
          clear h0
          go_wp2_with fail
          refine Calls.mono (HA.out _) ?_
          rintro e' w3 ⟨rfl, rfl⟩
          clear HA
          go_wp2
          go_ret
          refine ⟨o2, ?_, hown2, HOut.out, HQ.out.2, hgr2⟩
          exact b7 (by have := HQ.out.1; omega)
      as_aux_lemma =>
        have he1' : e = 1 := by omega
        subst he1'
        have h0 := HF.out
        rw [Nat.mul_one] at h0
        have HQ := hid (py hDpos H2.out HP.out h0)
        clear h0
        go_wp2_with fail
        refine Calls.mono (HA.out _) ?_
        rintro e' w3 ⟨rfl, rfl⟩
        clear HA hez
        go_wp2
        clear c1 c2 HO HE hgr
        go_loopw [14, 15, 16, 132] (fun c _ _ i wr => ∃ (k c' : Nat) (o' : List Nat), k ≤ n ∧ i = .int .i64 k ∧ c = .int .u32 c' ∧ c' ≤ 1 ∧ OwnL wr g N o' ∧ w.grownBy wr (some g) ∧ Hid (∀ j, (j < off ∨ off + k ≤ j) → o'.getD j 0 = o2.getD j 0) ∧
          Hid (ac ((o'.drop off).take k) + 4294967296 ^ k * c' = ac ((o2.drop off).take k) + ac (ds.take k))) (fun _ _ _ i _ => n - (intOf i).toNat)
        case atStart => exact ⟨0, 0, o2, by omega, rfl, rfl, by omega, hown2, hgr2, fun j _ => rfl, by simp [Hid, ac]⟩
        case round =>
          clear hown2 hgr2
          obtain ⟨k, c', o3, hk, rfl, rfl, hc', hown3, hgr3, HO3, HE3⟩ := hrel
          have hol3 := hown3.1
          by_cases hlt : k < n
          · as_aux_lemma =>
              have hlt' : k < ds.length := by have := Hdl.out; omega
              obtain ⟨f0, f1⟩ := x4.u32 hlt'
              rw [← kW hgr3 (hS _ x4.1).1 (hS _ x4.1).2] at f0
              have HT := hid (bx ds k hlt')
              obtain ⟨v, hv⟩ : ∃ v, v = ds[k] := ⟨_, rfl⟩
              rw [← hv] at f0 f1 HT
              clear hv
              have hko : off + k < o3.length := by omega
              have c1 := hown3.cell hko
              have c2 := hown3.frozen (off + k)
              obtain ⟨x, hx⟩ : ∃ x, x = o3[off + k] := ⟨_, rfl⟩
              have hx' : x < 4294967296 := by rw [hx]; exact hown3.2.1 _ (List.getElem_mem hko)
              have HXo := hid (show o2.getD (off + k) 0 = x by rw [← HO3.out (off + k) (.inr (by omega)), hx]; simp [List.getD, hko])
              rw [← hx] at c1
              clear hx
              have HTk := hid (fun d => de (o := o3) (off := off) (k := k) (d := d) hko)
              obtain ⟨d, hd⟩ : ∃ d : Nat, (d : Int) = ((x : Int) + (v : Int) + (c' : Int)) % 4294967296 := ⟨((x + v + c') % 4294967296), by omega⟩
              obtain ⟨e, he⟩ : ∃ e : Nat, (e : Int) = ((x : Int) + (v : Int) + (c' : Int)) / 4294967296 := ⟨((x + v + c') / 4294967296), by omega⟩
              have hde : d + 4294967296 * e = x + v + c' := by omega
              have hd1' : d < 4294967296 := by omega
              have he1 : e ≤ 1 := by omega
              have HA := hid (fun W => i6 (x : Int) (v : Int) (c' : Int) W (by omega) (by omega) (by omega) (by omega) (by omega) (by omega))
              rw [← hd, ← he] at HA
              have HDE := hid hde
              clear hd he hde
              go_wp2_with fail
              refine Calls.mono (HA.out _) ?_
              rintro e' w3 ⟨rfl, rfl⟩
              clear HA
              go_wp2
              go_roundw
              case rel =>
                have hl2 : o2.length = o3.length := by
                  have := HP.out
                  exact HL2.out.trans hol3.symm
                refine ⟨k + 1, e, o3.set (off + k) d, by omega, by go_num, rfl, he1, hown3.set hko hd1', mD hgr3 _ _, fun j hj => ?_, ?_⟩
                · rw [← HO3.out j (by omega)]
                  simp [List.getD, show ¬ off + k = j by omega]
                show ac (((o3.set (off + k) d).drop off).take (k + 1)) + 4294967296 ^ (k + 1) * e = ac ((o2.drop off).take (k + 1)) + ac (ds.take (k + 1))
                have h1 := HE3.out
                rw [HTk.out, aR, co (by omega), HT.out, dg (by omega), aR, co (by omega), HXo.out, Nat.pow_succ, Nat.mul_assoc]
                have h2 : 4294967296 ^ k * d + 4294967296 ^ k * (4294967296 * e) = 4294967296 ^ k * x + 4294967296 ^ k * v + 4294967296 ^ k * c' := by
                  rw [← Nat.mul_add, HDE.out, Nat.mul_add, Nat.mul_add]
                omega
              case measure => simp [intOf]; omega
          as_aux_lemma =>
            have hkn : k = n := by omega
            have hl2 : o2.length = o3.length := HL2.out.trans hol3.symm
            have hko : off + n < o3.length := by omega
            have c1 := hown3.cell hko
            have c2 := hown3.frozen (off + n)
            obtain ⟨x, hx⟩ : ∃ x, x = o3[off + n] := ⟨_, rfl⟩
            have hx' : x < 4294967296 := by rw [hx]; exact hown3.2.1 _ (List.getElem_mem hko)
            have hxo : o2.getD (off + n) 0 = x := by rw [← HO3.out (off + n) (.inr (by omega)), hx]; simp [List.getD, hko]
            rw [← hx] at c1
            clear hx
            obtain ⟨d, hd⟩ : ∃ d : Nat, d = (x + c') % 4294967296 := ⟨_, rfl⟩
            obtain ⟨e, he⟩ : ∃ e : Nat, e = (x + c') / 4294967296 := ⟨_, rfl⟩
            have hde : d + 4294967296 * e = x + c' := by omega
            have hd1' : d < 4294967296 := by omega
            have hdi : ((x : Int) + (c' : Int)) % 4294967296 = (d : Int) := by omega
            have hds : ds.take k = ds := List.take_of_length_le (by have := Hdl.out; omega)
            have hDlt : D < 4294967296 ^ n := by
              have := a7 hdlt.out
              rw [← HD.out, Hdl.out] at this
              exact this
            have hfin : ac (((o3.set (off + n) d).drop off).take (n + 1)) = U % D := by
              have h1 := HE3.out
              rw [hds, ← HD.out, hkn] at h1
              have h3 := HQ.out.2
              rw [dg (by omega), aR, co (by omega), hxo] at h3
              have hlt3 : ac (((o3.set (off + n) d).drop off).take (n + 1)) < 4294967296 ^ (n + 1) := by
                have hlen : (((o3.set (off + n) d).drop off).take (n + 1)).length = n + 1 := co (by simp; omega)
                have := a7 (xs := ((o3.set (off + n) d).drop off).take (n + 1)) (fun y hy => (hown3.set hko hd1').2.1 y (List.mem_of_mem_drop (List.mem_of_mem_take hy)))
                rwa [hlen] at this
              rw [de hko, aR, co (by omega)] at hlt3 ⊢
              have h2 : 4294967296 ^ n * d + 4294967296 ^ n * (4294967296 * e) = 4294967296 ^ n * x + 4294967296 ^ n * c' := by
                rw [← Nat.mul_add, hde, Nat.mul_add]
              have h4 : U % D < 4294967296 ^ n := Nat.lt_trans (Nat.mod_lt _ hDpos) hDlt
              have h5 : 4294967296 ^ (n + 1) = 4294967296 ^ n * 4294967296 := by rw [Nat.pow_succ]
              have h6 : 4294967296 ^ n * (4294967296 * e) = 4294967296 ^ (n + 1) * e := by rw [h5, Nat.mul_assoc]
              have he01 : e = 0 ∨ e = 1 := by omega
              rcases he01 with h | h
              · subst h; omega
              subst h; omega
            have hout : ∀ j, j < off ∨ off + n < j → (o3.set (off + n) d).getD j 0 = o.getD j 0 := fun j hj => by
              rw [← HOut.out j hj, ← HO3.out j (by omega)]
              simp [List.getD, show ¬ off + n = j by omega]
            have HF3 := hid hfin
            have HOut3 := hid hout
            have e1 : IntKind.u64.wrap ((G : Int) - 1) = ((G - 1 : Nat) : Int) := by
              have h0 : 1 ≤ G := by rw [HQ.out.1]; exact Nat.le_add_left 1 _
              have : (G : Int) - 1 = ((G - 1 : Nat) : Int) := by omega
              rw [this]; exact IntWalk.u64_in _ (by omega)
            have hR : Hid (((G - 1 : Nat) : Int) = ((U / D : Nat) : Int)) := by
              show ((G - 1 : Nat) : Int) = ((U / D : Nat) : Int)
              have : G - 1 = U / D := by rw [HQ.out.1]; rfl
              rw [this]
            clear he hde hfin hout hds hxo hkn hDlt hd hl2
            go_wp2
            go_ret
            exact ⟨o3.set (off + n) d, b7 hR.out, hown3.set hko hd1', HOut3.out, HF3.out, mD hgr3 _ _⟩
end Go.Proofs.YtokmkopihhnggaaGreatDoor
