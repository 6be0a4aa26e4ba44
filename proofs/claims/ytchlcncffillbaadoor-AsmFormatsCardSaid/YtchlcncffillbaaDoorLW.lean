/- The examples of the chapter hold. -/
import Derived.Test.YtchlcncffillbaaDoorLF
import Derived.Test.YtchlcncffillbaaDoorP14
import Derived.KernelRfl
namespace Go.Proofs.YtchlcncffillbaaDoor.L
open Go.RowKit Go.Proofs.YtchlcncffillbaaDoor.P Go.Proofs.YtchlcncffillbaaDoorW.PrintWords Go.Proofs.YtchlcncffillbaaDoorW.PrintLast Go.Proofs.YtchlcncffillbaaDoorW.PrintMore
theorem awake_true : Tells ontimelaw05_awake.f true := Tells.ofMono 30 (fun k => ontimelaw05_awake.mono k) (by kernel_rfl)
end Go.Proofs.YtchlcncffillbaaDoor.L
