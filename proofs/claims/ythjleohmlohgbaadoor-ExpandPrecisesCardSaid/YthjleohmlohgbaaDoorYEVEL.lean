/- Fixed and Precise: both rows. -/
import Derived.Test.YthjleohmlohgbaaDoorYEVE11
