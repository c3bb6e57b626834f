/- What is taken off the shelf. -/
import Derived.Test.YtpddhnpfnefdeaaGreatDoorQtR1XI
import Derived.Test.YtpddhnpfnefdeaaGreatDoorQtLayItoa2
import Derived.Test.YtpddhnpfnefdeaaGreatDoorQtR1Y
set_option linter.all false
