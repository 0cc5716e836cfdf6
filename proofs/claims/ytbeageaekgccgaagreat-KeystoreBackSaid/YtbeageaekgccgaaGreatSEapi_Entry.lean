/- The sort of a short row. -/
import Derived.Test.YtbeageaekgccgaaGreatSXapi_Entry
