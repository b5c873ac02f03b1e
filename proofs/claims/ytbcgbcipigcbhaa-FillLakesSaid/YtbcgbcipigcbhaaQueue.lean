/- The methods of route.queue, as container/heap calls them. -/
import Derived.Test.YtbcgbcipigcbhaaJobs
import Derived.Test.YtbcgbcipigcbhaaGridD
namespace Go.Proofs.Ytbcgbcipigcbhaa.queue
open Go.RowKit Go.Proofs.Ytbcgbcipigcbhaa
set_option linter.unusedVariables false
set_option linter.unusedSimpArgs false
set_option maxRecDepth 100000

section
variable {F : Nat → Prop} {W0 : World} {L : List HA} {q : Nat} 
end
end Go.Proofs.Ytbcgbcipigcbhaa.queue
