import Derived.Test.YtdnjagfbhppmbaaGn
import Derived.Test.YtdnjagfbhppmbaaGm
import Derived.Test.YtdnjagfbhppmbaaGl
/-! What is proved by hand, for the printed walks: lexer.Name, flatpack.Check, flatpack.table, flatpack.Plan -/
