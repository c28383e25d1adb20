/- Texts of one proof, merged: . -/
import Derived.Test.YtfihfjbakfadkaaDoorMcH
import Derived.Test.YtfihfjbakfadkaaDoorMcJ
