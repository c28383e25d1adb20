/- Texts of one proof, merged: . -/
import Derived.Deep.Cut
import Derived.Test.YtfihfjbakfadkaaDoorMcG
