/- The facts of a row about the program, in parts: each part is then a closed fact of its own declaration, and the kernel gives its memory back between them. -/
import Derived.JoinedCond
set_option linter.all false
namespace Go.Vx
open Go.ChangeShapes Go.WideShapes Go.ChangeAt

def facts1 (P : Program) (f : FuncId) (fn : Func) (s : ChangeSpec) (c : OpenClaim) : Bool := c.wf (OpenSpec.ofChange s) && laidOutB P && mapsRowed P
def facts2 (P : Program) (f : FuncId) (fn : Func) (s : ChangeSpec) (c : OpenClaim) : Bool := fn.params.all (P.readableRec ·) && namedTie P c.named s.vars && (c.stops == []) && (P.stops == []) && (c.knobs == []) && (P.stopKnobs == [])
def facts3 (P : Program) (f : FuncId) (fn : Func) (s : ChangeSpec) (c : OpenClaim) : Bool := (c.inPlace == P.inPlace f) && (c.unfollowed == P.unfollowed f)
def facts4 (P : Program) (f : FuncId) (fn : Func) (s : ChangeSpec) (c : OpenClaim) : Bool := (c.recurses == P.recurses f)
def facts5 (P : Program) (f : FuncId) (fn : Func) (s : ChangeSpec) (c : OpenClaim) : Bool := (c.named == P.varsNamed f)
def facts6 (P : Program) (f : FuncId) (fn : Func) (s : ChangeSpec) (c : OpenClaim) : Bool := (c.maps == (fn.params.toList ++ s.plain.varTypes P).any (P.mapsRec ·)) && (c.ifaces == (fn.params.toList ++ s.plain.varTypes P).any (P.ifacesRec ·)) && (c.mapsOut == P.mapsAmong fn.resultTypes.toList) && (c.loops == (fn.params.toList ++ s.plain.varTypes P).any (P.loopsFrom ·)) && (c.wideKeys == (fn.params.toList ++ s.plain.varTypes P ++ fn.resultTypes.toList).any (P.wideKeysFrom ·))
def facts7 (P : Program) (f : FuncId) (fn : Func) (s : ChangeSpec) (c : OpenClaim) : Bool := s.vars.all (P.varReadable ·) && fn.resultTypes.all (fun t => P.readableRec t && decide (t < P.types.size)) && (c.ifacesOut == fn.resultTypes.toList.any (P.ifacesRec ·)) && (c.loopsOut == fn.resultTypes.toList.any (P.loopsFrom ·)) && (c.plainKeys == P.plainKeys)
def facts8 (P : Program) (f : FuncId) (fn : Func) (s : ChangeSpec) (c : OpenClaim) : Bool := c.shortTexts.isNone && P.stopsHeard && P.mayEnter && (c.lifted == P.liftsFinal) && (P.make == some c.make)
def facts9 (P : Program) (f : FuncId) (fn : Func) (s : ChangeSpec) (c : OpenClaim) : Bool := (c.kinds == (if c.domain.isEmpty then [] else fn.params.toList.map fun t => match P.underlying t with | some (.int k) => some k | _ => none)) && (c.pinned == c.pinnedBy) && (c.veiled == (fn.params.toList ++ s.plain.varTypes P ++ fn.resultTypes.toList).any (P.veiledRec ·)) && c.veiledFits P fn.params.toList (fn.params.toList ++ s.plain.varTypes P ++ fn.resultTypes.toList)

theorem joined_of {P : Program} {f : FuncId} {fn : Func} {s : ChangeSpec} {c : OpenClaim} (h1 : facts1 P f fn s c = true) (h2 : facts2 P f fn s c = true) (h3 : facts3 P f fn s c = true) (h4 : facts4 P f fn s c = true) (h5 : facts5 P f fn s c = true) (h6 : facts6 P f fn s c = true) (h7 : facts7 P f fn s c = true) (h8 : facts8 P f fn s c = true) (h9 : facts9 P f fn s c = true) : joinedFacts P f fn s c = true := by
  unfold facts1 at h1; unfold facts2 at h2; unfold facts3 at h3; unfold facts4 at h4; unfold facts5 at h5; unfold facts6 at h6; unfold facts7 at h7; unfold facts8 at h8; unfold facts9 at h9
  unfold joinedFacts
  simp only [Bool.and_eq_true] at *
  simp only [h1, h2, h3, h4, h5, h6, h7, h8, h9, and_self]
  exact ⟨⟨⟨⟨trivial, h9.1.1.1⟩, trivial⟩, trivial⟩, trivial⟩
end Go.Vx
