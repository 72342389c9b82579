/- For strings of at most 300 bytes each a hash's copy and the hash itself take in different strings independently, and the chapter's example holds. No condition. -/
import Derived.Test.YtkkoldfaplonaaaCx1
namespace Go.Proofs.Ytkkoldfaplonaaa.Pure
open Go.RowKit Go.Proofs.Ytkkoldfaplonaaa.C Go.Proofs.YtkkoldfaplonaaaW.PrintWords Go.Proofs.YtkkoldfaplonaaaW.PrintLast

theorem DigestClones : hopmeshlaw01_DigestClones.Pure := trivial

end Go.Proofs.Ytkkoldfaplonaaa.Pure
