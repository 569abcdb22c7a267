import Derived.Test.YtnjikioimompnaaGe
import Derived.Test.YtnjikioimompnaaGf
import Derived.Test.YtnjikioimompnaaGh
/-! What is proved by hand, for the printed walks: lexer.Name, profile.Check, profile.Mirror, profile.undercut, the reference's Bounds, extreme by its first key, sides by its name -/
