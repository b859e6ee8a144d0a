/- BS2 over the base of the rows that list no errors: nothing yCB BS. -/
import Derived.Test.YtlaebedgpkiodaaGreatDoorBS


