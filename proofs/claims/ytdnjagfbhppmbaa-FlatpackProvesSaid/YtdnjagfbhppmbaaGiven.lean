import Derived.Test.YtdnjagfbhppmbaaGp
import Derived.Test.YtdnjagfbhppmbaaGl
/-! What is proved by hand, for the printed walks: lexer.Name, flatpack.Check, flatpack.table, flatpack.Plan, flatpack.Proves, flatpack.Value of a problem that is not valid -/
