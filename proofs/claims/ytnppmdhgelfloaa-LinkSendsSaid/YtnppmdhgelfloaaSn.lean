/- LinkSends walked, whatever the flights. -/
import Derived.Test.YtnppmdhgelfloaaL9
import Derived.Test.YtnppmdhgelfloaaOpen
set_option linter.unusedVariables false
namespace Go.Proofs.Ytnppmdhgelfloaa
open Go.RowKit Go.Fw
theorem sends_walk (A Ad Aa Ab : Option Addr) (c cd ca cb : Nat) (fs : List Flight) (ds bs : List Int) (fas : List Fate) (at_ mask nn aa now : Int) (w0 : World) (hf : FlR w0 w0.heap.size A fs.length fs) (hd : Sl w0 w0.heap.size 1 Ad ds.length (ins ds)) (ha : FaR w0 w0.heap.size Aa fas.length fas) (hb0 : Sl w0 w0.heap.size 1 Ab bs.length (bys bs))
    (hfs : fs.length ≤ 4611686018427387904) (hds : ds.length ≤ 4611686018427387904) (hfa : fas.length ≤ 4611686018427387904) (hbs : bs.length ≤ 4611686018427387904) (hdel : ∀ (k : Nat) (fa : Fate), fas[k]? = some fa → fa.1.length ≤ 17592186044416) (hat : -9223372036854775808 ≤ at_ ∧ at_ ≤ 9223372036854775807) :
    Calls Try.prog 3 #[.slice A fs.length c, .agg #[.slice Ad ds.length cd, .int .i64 at_, .int .i64 mask], .slice Aa fas.length ca, .slice Ab bs.length cb, .int .i64 nn, .int .i64 aa, .int .i64 now] w0 (Ret fun v w' => v = .bool true ∧ Ext w0 w') := by
  cases h : lg fs with
  | true => exact sends_big A Ad Aa Ab c cd ca cb fs ds bs fas at_ mask nn aa now w0 hf hd ha hb0 hfs hds hfa hbs hdel hat h
  | false => exact sends_small A Ad Aa Ab c cd ca cb fs ds bs fas at_ mask nn aa now w0 hf hd ha hb0 hfs hds hfa hbs hdel hat h
end Go.Proofs.Ytnppmdhgelfloaa
