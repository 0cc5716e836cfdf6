/- Where chapter 03's texts lie, they hold what B0 holds. -/
import Derived.Test.YtbeageaekgccgaaGreatQ1
