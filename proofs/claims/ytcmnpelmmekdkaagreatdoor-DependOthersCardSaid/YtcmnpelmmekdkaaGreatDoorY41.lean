/- Several texts of mine, one behind the other. Conditions: as each says. -/
import Derived.Test.YtcmnpelmmekdkaaGreatDoorY40
set_option linter.unusedVariables false
set_option linter.unusedSimpArgs false
namespace Go.Proofs.YtcmnpelmmekdkaaGreatDoor.P
open Go Go.ax
set_option maxRecDepth 100000
set_option maxHeartbeats 4000000
@[reducible] def xQ (w : ca) : ag := .cells [.d (.sl (w.cd.map Host.enc)), .d (.sl (w.aq.map aB.enc)), .d (.str w.anchor.name), .d (.int .i64 w.anchor.type), .d (.int .i64 w.anchor.gy), .d (.sl (w.anchor.data.map Datum.enc)), .d (.sl (w.hints.map (.int .i64)))]
end Go.Proofs.YtcmnpelmmekdkaaGreatDoor.P
