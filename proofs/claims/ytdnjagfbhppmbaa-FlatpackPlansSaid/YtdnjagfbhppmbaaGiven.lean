import Derived.Test.YtdnjagfbhppmbaaGl
/-! What is proved by hand, for the printed walks: lexer.Name, flatpack.Check, flatpack.table, flatpack.Plan -/
