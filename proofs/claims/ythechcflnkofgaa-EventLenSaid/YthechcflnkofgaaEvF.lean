/- The calls that the document fixes (events). -/
import Derived.Test.YthechcflnkofgaaQx8
import Derived.Test.YthechcflnkofgaaEv
namespace Go.Proofs.Ythechcflnkofgaa.EvC
open Go Go.RowKit Go.Proofs.Ythechcflnkofgaa.Q Go.Proofs.YthechcflnkofgaaW.PrintWords
theorem ev_fixed : Ev (fun k => shuttlecocklaw04_fixed.f k) true := Ev.of shuttlecocklaw04_fixed.mono (k := 40) (by decide +kernel)
end Go.Proofs.Ythechcflnkofgaa.EvC
