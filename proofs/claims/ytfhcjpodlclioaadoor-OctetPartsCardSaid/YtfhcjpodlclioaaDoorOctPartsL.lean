/- OctetParts' walk, and what opens its argument. -/
import Derived.Test.YtfhcjpodlclioaaDoorOctParts
import Derived.Test.YtfhcjpodlclioaaDoorOpenA
