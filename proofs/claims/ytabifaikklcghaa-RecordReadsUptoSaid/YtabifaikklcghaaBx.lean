/- Buildings and texts together (own work). -/
import Derived.Test.YtabifaikklcghaaBuI
import Derived.Test.YtabifaikklcghaaTx
