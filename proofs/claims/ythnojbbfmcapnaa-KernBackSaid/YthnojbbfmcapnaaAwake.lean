/- Pure: 'awake' is true. -/
import Derived.Test.YthnojbbfmcapnaaPr21
namespace Go.Proofs.Ythnojbbfmcapnaa.Pure
open Go.Proofs.YthnojbbfmcapnaaW.PrintWords Go.Proofs.YthnojbbfmcapnaaW.PrintLast Go.Proofs.YthnojbbfmcapnaaW.PrintMore
open Go.RowKit Go.Proofs.Ythnojbbfmcapnaa.Pr
set_option maxRecDepth 100000 in
set_option maxHeartbeats 4000000 in
theorem awakeAt : pochoirlaw40_awake.f 9 = some true := by decide +kernel
theorem awake_ev : Ev pochoirlaw40_awake.f true := Ev.of pochoirlaw40_awake.mono awakeAt
end Go.Proofs.Ythnojbbfmcapnaa.Pure
