/- The cards of three laws. -/
import Derived.Test.YtoannkopciehcaaDoorULA15
