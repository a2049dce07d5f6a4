/- Every mask is told by just its numbers: gone through, one by one (chapter 2). -/
import Derived.Test.YtbklmlbmbnnjkaaDoorMMaskD
namespace Go.Proofs.YtbklmlbmbnnjkaaDoor.M
open Go.RowKit Go.Proofs.YtbklmlbmbnnjkaaDoor.P Go.Proofs.YtbklmlbmbnnjkaaDoorW.PrintWords Go.Proofs.YtbklmlbmbnnjkaaDoorW.PrintLast Go.Proofs.YtbklmlbmbnnjkaaDoorW.PrintMore

theorem toldAll_64c : toldAll 64 43 21 = true := by decide +kernel
end Go.Proofs.YtbklmlbmbnnjkaaDoor.M
