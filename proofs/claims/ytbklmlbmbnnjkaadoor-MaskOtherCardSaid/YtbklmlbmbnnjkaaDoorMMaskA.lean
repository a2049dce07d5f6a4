/- Every mask is told by just its numbers: gone through, one by one (chapter 2). -/
import Derived.Test.YtbklmlbmbnnjkaaDoorMMaskD
namespace Go.Proofs.YtbklmlbmbnnjkaaDoor.M
open Go.RowKit Go.Proofs.YtbklmlbmbnnjkaaDoor.P Go.Proofs.YtbklmlbmbnnjkaaDoorW.PrintWords Go.Proofs.YtbklmlbmbnnjkaaDoorW.PrintLast Go.Proofs.YtbklmlbmbnnjkaaDoorW.PrintMore

theorem toldAll_2 : toldAll 2 1 1 = true := by decide +kernel
theorem toldAll_4 : toldAll 4 1 3 = true := by decide +kernel
theorem toldAll_8 : toldAll 8 1 7 = true := by decide +kernel
theorem toldAll_16 : toldAll 16 1 15 = true := by decide +kernel
theorem toldAll_32 : toldAll 32 1 31 = true := by decide +kernel
end Go.Proofs.YtbklmlbmbnnjkaaDoor.M
