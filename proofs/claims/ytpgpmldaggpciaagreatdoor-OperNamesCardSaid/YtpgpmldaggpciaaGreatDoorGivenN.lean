/- All calls' contracts that OperNames wants. -/
import Derived.Test.YtpgpmldaggpciaaGreatDoorOperRN
import Derived.Test.YtpgpmldaggpciaaGreatDoorAliveE
import Derived.Test.YtpgpmldaggpciaaGreatDoorEventRN
