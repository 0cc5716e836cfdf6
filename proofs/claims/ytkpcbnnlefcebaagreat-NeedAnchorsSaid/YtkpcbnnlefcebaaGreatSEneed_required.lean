/- The sort of a short row. -/
import Derived.Test.YtkpcbnnlefcebaaGreatSXneed_required
