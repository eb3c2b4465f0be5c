/- The facts of a card, apart. No program in sight. -/
import Derived.JoinedCond
set_option linter.unusedVariables false
set_option linter.unusedSimpArgs false
namespace Go.Proofs.YtclkgcigacbmiaaGreatDoor
open Go
def jf1 (P:Program) (fn:Func) (s:ChangeSpec) (c:OpenClaim):Bool:=c.wf (OpenSpec.ofChange s)&&laidOutB P&&mapsRowed P&&fn.params.all (P.readableRec ·)
def jf2 (P:Program) (s:ChangeSpec) (c:OpenClaim):Bool:=namedTie P c.named s.vars&&(c.stops==[])
def jf3 (P:Program) (c:OpenClaim):Bool:=(P.stops==[])&&(c.knobs==[])&&(P.stopKnobs==[])
def jf6 (P : Program) (fn : Func) (s : ChangeSpec) (c : OpenClaim) : Bool :=
  (c.maps == (fn.params.toList ++ s.plain.varTypes P).any (P.mapsRec ·)) && (c.ifaces == (fn.params.toList ++ s.plain.varTypes P).any (P.ifacesRec ·)) && (c.mapsOut == P.mapsAmong fn.resultTypes.toList) &&
      (c.loops == (fn.params.toList ++ s.plain.varTypes P).any (P.loopsFrom ·)) && (c.wideKeys == (fn.params.toList ++ s.plain.varTypes P ++ fn.resultTypes.toList).any (P.wideKeysFrom ·)) &&
      s.vars.all (P.varReadable ·) && fn.resultTypes.all (fun t => P.readableRec t && decide (t < P.types.size)) && (c.ifacesOut == fn.resultTypes.toList.any (P.ifacesRec ·)) && (c.loopsOut == fn.resultTypes.toList.any (P.loopsFrom ·))
def jf8 (P:Program) (c:OpenClaim):Bool:=c.shortTexts.isNone&&P.stopsHeard
def xK (P:Program) (fn:Func) (s:ChangeSpec) (c:OpenClaim):Bool:=
 (P.make==some c.make)&&(c.kinds==(if c.domain.isEmpty then [] else fn.params.toList.map fun t=>match P.underlying t with|some (.int k)=>some k|_=>none))&&(c.pinned==c.pinnedBy)
def xL (P:Program) (fn:Func) (s:ChangeSpec) (c:OpenClaim):Bool:=
 (c.veiled==(fn.params.toList++s.plain.varTypes P++fn.resultTypes.toList).any (P.veiledRec ·))&&c.veiledFits P fn.params.toList (fn.params.toList++s.plain.varTypes P++fn.resultTypes.toList)
theorem zg {P:Program} {f:FuncId} {fn:Func} {s:ChangeSpec} {c:OpenClaim} (h1:jf1 P fn s c=true) (h1b:jf2 P s c=true) (h1c:jf3 P c=true)
  (h2:(c.inPlace==P.inPlace f)=true) (h3:(c.unfollowed==P.unfollowed f)=true) (h4:(c.recurses==P.recurses f)=true) (h5:(c.named==P.varsNamed f)=true)
  (h6:jf6 P fn s c=true) (h7:(c.plainKeys==P.plainKeys)=true) (h8:jf8 P c=true) (h9:P.mayEnter=true) (h10:(c.lifted==P.liftsFinal)=true)
  (h11:xK P fn s c=true) (h12:xL P fn s c=true):joinedFacts P f fn s c=true:=by
 unfold jf1 at h1;unfold jf2 at h1b;unfold jf3 at h1c;unfold jf6 at h6;unfold jf8 at h8;unfold xK at h11;unfold xL at h12;unfold joinedFacts;simp only [Bool.and_eq_true] at *
 simp only [h1,h1b,h1c,h2,h3,h4,h5,h6,h7,h8,h9,h10,h12,and_self,true_and,and_true];exact h11
end Go.Proofs.YtclkgcigacbmiaaGreatDoor
