/- Plain functions: ranges. -/
import Derived.Test.YteliahajeokciaaBaseM
namespace Go.M
def sLt (a b : Str) : Bool := Op.bytesLess a b
def areEnds (low high : Str) : Bool := (low == [] || goodKey low) && (high == [] || goodKey high && !(Op.bytesLess high low || high == low))
def inRange (low high key : Str) : Bool := !Op.bytesLess key low && (high == [] || Op.bytesLess key high)
def l22Ends (low high : Str) : Bool := (low == [] || l3Key low) && (high == [] || l3Key high && Op.bytesLess low high)
def isWithin (low high key : Str) : Bool × Bool := if !areEnds low high || !goodKey key then (false, false) else (inRange low high key, true)
def isWithinS (low high key : Str) : Bool × Bool := if !l22Ends low high || !l3Key key then (false, false) else (inRange low high key, true)
end Go.M
