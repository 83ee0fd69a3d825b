/- Short names of values and places. -/
import Derived.Test.YtfglbdkfnphjgaaSh
namespace Go.Fw
open Go.RowKit
abbrev Vi (n:Int):Value:=Value.int IntKind.i64 n
abbrev Vt (s:ByteArray):Value:=Value.string s
abbrev Pt (b:Nat):Value:=Value.pointer (some ⟨b,0,none⟩)
abbrev ad (b:Nat):Option Addr:=some ⟨b,0,none⟩
abbrev sn:Value:=Value.slice none 0 0
abbrev be:ByteArray:=ByteArray.empty
end Go.Fw
