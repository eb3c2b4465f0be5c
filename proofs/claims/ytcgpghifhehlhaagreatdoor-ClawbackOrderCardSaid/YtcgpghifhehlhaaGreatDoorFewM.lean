/- Few: what is short enough for a law; walked by the abstract machine. -/
import Derived.Test.YtcgpghifhehlhaaGreatDoorEqsM
import Derived.Test.YtcgpghifhehlhaaGreatDoorRw3M
import Derived.Test.YtcgpghifhehlhaaGreatDoorVal1M
import Derived.Test.YtcgpghifhehlhaaGreatDoorRef11M
import Derived.Test.YtcgpghifhehlhaaGreatDoorWf6M
set_option linter.unusedVariables false
set_option linter.unusedSimpArgs false
namespace Go.Proofs.YtcgpghifhehlhaaGreatDoor
open Go Go.RowKit Go.Proofs.Tryz

theorem EW (r1 r2:GRat) (m n:Nat) (h1:sB m r1) (h2:sB n r2) (hm:m<=100000000000) (hn:n<=100000000000) (hm0:0<m) (hn0:0<n):ch prog 68 [.agg (cS r1),.agg (cS r2)] (.val (.agg (cS (enc (qOf r1+qOf r2))))):=
 eE (iv func68 (by decide) (by kernel_rfl)) [aN r1,aN r2] (aN (enc (qOf r1+qOf r2))) fun w=>uZ r1 r2 m n w h1 h2 hm hn hm0 hn0
theorem EX (r1 r2:GRat) (m n:Nat) (h1:sB m r1) (h2:sB n r2) (hm:m<=100000000000) (hn:n<=100000000000) (hm0:0<m) (hn0:0<n):ch prog 70 [.agg (cS r1),.agg (cS r2)] (.val (.agg (cS (enc (qOf r1-qOf r2))))):=
 eE (iv func70 (by decide) (by kernel_rfl)) [aN r1,aN r2] (aN (enc (qOf r1-qOf r2))) fun w=>iQ r1 r2 m n w h1 h2 hm hn hm0 hn0
theorem EY (r1 r2:GRat) (m n:Nat) (h1:sB m r1) (h2:sB n r2) (hm:m<=100000000000) (hn:n<=100000000000) (hm0:0<m) (hn0:0<n):ch prog 189 [.agg (cS r1),.agg (cS r2)] (.val (.agg (cS (enc (qOf r1*qOf r2))))):=
 eE (iv func189 (by decide) (by kernel_rfl)) [aN r1,aN r2] (aN (enc (qOf r1*qOf r2))) fun w=>AW r1 r2 m n w h1 h2 hm hn hm0 hn0
theorem EZ (n:Int) (h0: -9223372036854775808<=n) (h1:n<=9223372036854775807):ch prog 33 [.one (.lit (.int .i64 n))] (.val (.agg (cS (enc (n:Rat))))):=
 eE (iv func33 (by decide) (by kernel_rfl)) [.int .i64 n] (aN (enc (n:Rat))) fun w=>CQ n w h0 h1
abbrev WP:=Int×Rat
abbrev WT:=List WP
structure WR where
 cl:List Rat
 rv:Rat
def WR.add (R:WR) (c:Int) (a:Rat):WR:=if c= -1 then ⟨R.cl,R.rv+a⟩ else ⟨R.cl.set c.toNat (R.cl.getD c.toNat 0+a),R.rv⟩
def WR.B (n:Nat) (R:WR):Prop:=(∀x∈R.cl,qB n x)/\qB n R.rv
theorem WR.B.mono {m n:Nat} {R:WR} (h:R.B m) (hm:m<=n):R.B n:=⟨fun x hx=>(h.1 x hx).mono hm,h.2.mono hm⟩
theorem WR.B.pos {n:Nat} {R:WR} (h:R.B n):0<n:=h.2.pos
theorem qB.inv {n:Nat} {q:Rat} (h:qB n q):qB n q⁻¹:=by
 have hp:=h.pos;by_cases h0:q=0
 ·subst h0;rw [Rat.inv_zero];exact h
 have h1:q⁻¹=mkRat (sg (bU q) q.den) q.num.natAbs:=by
  have h2:=B7 (p:=1) h0;rw [Rat.div_def,Rat.one_mul] at h2;rw [h2];have e1:bU 1=false:=by unfold bU;simp
  rw [e1];simp
 rw [h1];refine lj ?_ h.1 hp;rw [fo];exact h.2
theorem qB.div {m n:Nat} {p q:Rat} (hp:qB m p) (hq:qB n q):qB (m+n) (p/q):=by
 rw [Rat.div_def];exact hp.mul hq.inv
abbrev Ek:=List Int×List WT
structure WL where
 count:Nat
 ranks:List WT
 pools:List Ek
 total:Rat
end Go.Proofs.YtcgpghifhehlhaaGreatDoor
