/- flags.Known, flags.Does: see YtbhfenpccccloaaH2. -/
import Derived.Test.YtbhfenpccccloaaH2
