-- The kit's printed words, pruned by this session's program wip/tools/prune.py to what the claim's texts name.
import Derived.SizedLaws
import Derived.ChangeSlices
namespace Go.Proofs.YtlmjjkggoemababW.PrintWords
open Go.ChangeShapes Go.WideShapes
end Go.Proofs.YtlmjjkggoemababW.PrintWords
