/- 2, multiplied by itself, comes to each byte but 0 once. No condition. (The whole statement is proved in the walk; nothing is left for this text.) -/
import Derived.Test.YtjmpdiichaokhaaPGfPowersx1
namespace Go.Proofs.Ytjmpdiichaokhaa.Pure
theorem GfPowers : Go.Proofs.Ytjmpdiichaokhaa.PGfPowers.flittinglaw01_GfPowers.Pure := trivial
end Go.Proofs.Ytjmpdiichaokhaa.Pure
