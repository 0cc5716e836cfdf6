/- The sort of a short row. -/
import Derived.Test.YtmihjbejflcgkaaSXapi_Seal
