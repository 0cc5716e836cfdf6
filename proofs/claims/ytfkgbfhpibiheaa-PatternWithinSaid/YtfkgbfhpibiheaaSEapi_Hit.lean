/- The sort of any row. -/
import Derived.Test.YtfkgbfhpibiheaaSO5api_Hit
