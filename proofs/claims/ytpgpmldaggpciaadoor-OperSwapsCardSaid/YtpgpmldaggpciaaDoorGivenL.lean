/- All calls' contracts of package oper, together. -/
import Derived.Test.YtpgpmldaggpciaaDoorBlame
import Derived.Test.YtpgpmldaggpciaaDoorAlive11
import Derived.Test.YtpgpmldaggpciaaDoorEvent
