/- The contracts of Send, Arrive, Same and large, at a length of whatever spelling. -/
import Derived.Test.YtnppmdhgelfloaaL9
set_option linter.unusedVariables false
namespace Go.Proofs.Ytnppmdhgelfloaa
open Go.RowKit Go.Fw
theorem send_any (A Ad Ab : Option Addr) (n nd nb c cd cb : Nat) (fs : List Flight) (ds bs : List Int) (at_ mask now : Int) (w : World) (hf : FlR w w.heap.size A n fs) (hd : Sl w w.heap.size 1 Ad nd (ins ds)) (hb0 : Sl w w.heap.size 1 Ab nb (bys bs))
    (hfs : n ≤ 1000000) (hbod : ∀ (i : Nat) (d : Int) (b : List Int), fs[i]? = some (d, b) → b.length ≤ 1000000) (hbs : nb ≤ 1000000) (hds : nd ≤ 1000000000000000000) (hnow : -4611686018427387904 ≤ now ∧ now ≤ 4611686018427387904) :
    Calls Try.prog 12 #[.slice A n c, .agg #[.slice Ad nd cd, .int .i64 at_, .int .i64 mask], .slice Ab nb cb, .int .i64 now] w
      (Ret fun v w' => ∃ A2 n2 c2, v = .slice A2 n2 c2 ∧ FlR w' w'.heap.size A2 n2 (sendF fs ds at_ mask bs now) ∧ Ext w w') := by
  obtain rfl := hf.1
  obtain rfl : ds.length = nd := by have := hd.1; simpa using this
  obtain rfl : bs.length = nb := by have := hb0.1; simpa using this
  exact send_spec A Ad Ab c cd cb fs ds bs at_ mask now w hf hd hb0 hfs hbod hbs hds hnow
theorem arrive_any (M : Nat) (hsort : SortC M) (A : Option Addr) (n c : Nat) (fs : List Flight) (now : Int) (w0 : World) (hf : FlR w0 w0.heap.size A n fs) (hM : n ≤ M) (hfs : n ≤ 1000000) (hbod : ∀ (i : Nat) (d : Int) (b : List Int), fs[i]? = some (d, b) → b.length ≤ 1000000) :
    Calls Try.prog 17 #[.slice A n c, .int .i64 now] w0 (Ret fun v w' => ∃ Ab nb cb Ar nr cr, v = .tuple #[.slice Ab nb cb, .slice Ar nr cr] ∧ BsR w' w'.heap.size Ab nb ((arrF fs now).map (·.2)) ∧ FlR w' w'.heap.size Ar nr (stayF fs now) ∧ Ext w0 w') := by
  obtain rfl := hf.1
  exact arrive_spec M hsort A c fs now w0 hf hM hfs hbod
theorem same_any (A A' : Option Addr) (n n' c c' : Nat) (fs : List Flight) (w0 : World) (hf : FlR w0 w0.heap.size A n fs) (hf2 : FlR w0 w0.heap.size A' n' fs) (hfs : n ≤ 4611686018427387904) :
    Calls Try.prog 11 #[.slice A n c, .slice A' n' c'] w0 (Ret fun v w' => v = .bool true ∧ Ext w0 w') := by
  obtain rfl := hf.1
  obtain rfl := hf2.1
  exact same_spec A A' c c' fs w0 hf hf2 hfs
end Go.Proofs.Ytnppmdhgelfloaa
