import Derived.Test.YtnjkjoklnephcaaGreatDoorF25
set_option linter.all false
set_option maxRecDepth 100000
set_option maxHeartbeats 0

