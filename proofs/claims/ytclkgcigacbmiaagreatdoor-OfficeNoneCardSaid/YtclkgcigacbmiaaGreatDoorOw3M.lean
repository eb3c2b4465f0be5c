/- The builder of groups, what it builds the caller's own; walked by the abstract machine. -/
import Derived.Test.YtclkgcigacbmiaaGreatDoorGu1M
import Derived.Test.YtclkgcigacbmiaaGreatDoorWf6M
import Derived.Test.YtclkgcigacbmiaaGreatDoorAbTM
import Derived.Test.YtclkgcigacbmiaaGreatDoorAbBM
set_option linter.unusedVariables false
set_option linter.unusedSimpArgs false
namespace Go.Proofs.YtclkgcigacbmiaaGreatDoor
open Go Go.RowKit

theorem vF (n j:Nat) (hn:n<65536) (hj:j<=16):IntKind.u16.wrap ((BitVec.ofInt IntKind.u16.bits ((n:Int).fdiv (2^min j IntKind.u16.bits))&&&BitVec.ofInt IntKind.u16.bits 3).toNat:Int)=((n/2^j%4:Nat):Int):=by
 have h1:(BitVec.ofInt 16 ((n:Int).fdiv (2^min j 16))&&&BitVec.ofInt 16 3).toNat=n/2^j%4:=by
  rw [Nat.min_eq_left hj];have h1:(n:Int).fdiv (2^j)=((n/2^j:Nat):Int):=by
   have:(2:Int)^j=((2^j:Nat):Int):=by norm_cast
   rw [this,Int.fdiv_eq_ediv_of_nonneg _ (Int.natCast_nonneg _)];norm_cast
  have h2:n/2^j<65536:=Nat.lt_of_le_of_lt (Nat.div_le_self _ _) hn;rw [h1,BitVec.ofInt_natCast,BitVec.toNat_and,BitVec.toNat_ofNat,Nat.mod_eq_of_lt (a:=n/2^j) (by omega)];exact Nat.and_two_pow_sub_one_eq_mod (n:=2) _
 have h3:IntKind.u16.bits=16:=rfl;rw [h3,h1];exact mT _ (by omega)
structure GCls where
 est:Int
 rank:Int
 small:Bool
 claims:List Int


end Go.Proofs.YtclkgcigacbmiaaGreatDoor
