import Derived.Test.YtfeciafdioepiaaP1
namespace Go.Proofs.Ytfeciafdioepiaa.Pure
theorem FieldNames : Go.Proofs.Ytfeciafdioepiaa.PC.bulletinlaw09_FieldNames.Pure := Go.Proofs.Ytfeciafdioepiaa.FieldNames_pure
end Go.Proofs.Ytfeciafdioepiaa.Pure
