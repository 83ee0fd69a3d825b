/- Short words for the printed walks. -/
import Derived.Test.YtfglbdkfnphjgaaLt
set_option linter.unusedVariables false
namespace Go.Proofs.Ytfglbdkfnphjgaa
open Go.RowKit Go.Fw
noncomputable section
abbrev Z {α : Type} (a : Option Addr) (l : List α) (c : Nat) : Value := .slice a l.length c
abbrev V (n : Int) : Value := Vi n
abbrev T (n : ByteArray) : Value := Vt n
abbrev sz (α : Type) [Rp α] : Nat := Rp.sz α
abbrev O (e : Nat) (a : Option Addr) (c : Nat) (t : TypeId) (α : Type) [Rp α] (q : List (List Value)) : It := .own e a c t (Rp.sz α) q
theorem ca {α : Type} {a : α} {l m : List α} : a :: l ++ m = a :: (l ++ m) := rfl
theorem na {α : Type} {l : List α} : [] ++ l = l := rfl
theorem cb {a b : Bool} (h : a = b) : Value.bool a = .bool b := congrArg Value.bool h
theorem s : type_of% @sRun := @sRun
theorem q : type_of% @wSq := @wSq
theorem g : type_of% @wReg := @wReg
theorem n : type_of% @sNil := @sNil
theorem y : type_of% @trivial := @trivial
theorem mp : type_of% @xMvP := @xMvP
theorem mi : type_of% @xMvI := @xMvI
theorem xn : type_of% @xNil := @xNil
theorem xi : type_of% @xAsI := @xAsI
theorem wk : type_of% @wSkip := @wSkip
theorem sc : type_of% @sCall := @sCall
theorem ec : type_of% @eCall := @eCall
theorem iv : type_of% @ite_inv := @ite_inv
theorem tb : type_of% @tStB := @tStB
theorem sl_ : type_of% @sl_of' := @sl_of'
theorem oc : type_of% @oCall' := @oCall'
theorem oo : type_of% @oTo' := @oTo'
theorem os : type_of% @oTs' := @oTs'
theorem ln_ : type_of% @LRep.nil := @LRep.nil
abbrev BA := ByteArray
abbrev Gv := GVarInfo
abbrev Gi := GStmtInfo
abbrev Ge := GExpr
abbrev Gs := GStmt
abbrev Gr := GRecord
abbrev Gn := GFunc
abbrev Gm := GMaker
abbrev Gc := GChecker
theorem u3_ : type_of% @Try.underlying3 := @Try.underlying3
theorem u5_ : type_of% @Try.underlying5 := @Try.underlying5
theorem u9_ : type_of% @Try.underlying9 := @Try.underlying9
theorem u22_ : type_of% @Try.underlying22 := @Try.underlying22
theorem u23_ : type_of% @Try.underlying23 := @Try.underlying23
theorem u24_ : type_of% @Try.underlying24 := @Try.underlying24
theorem u26_ : type_of% @Try.underlying26 := @Try.underlying26
theorem u27_ : type_of% @Try.underlying27 := @Try.underlying27
theorem u28_ : type_of% @Try.underlying28 := @Try.underlying28
theorem u30_ : type_of% @Try.underlying30 := @Try.underlying30
theorem u59_ : type_of% @Try.underlying59 := @Try.underlying59
theorem u60_ : type_of% @Try.underlying60 := @Try.underlying60
theorem u70_ : type_of% @Try.underlying70 := @Try.underlying70
theorem u80_ : type_of% @Try.underlying80 := @Try.underlying80
theorem u82_ : type_of% @Try.underlying82 := @Try.underlying82
theorem u97_ : type_of% @Try.underlying97 := @Try.underlying97
theorem u105_ : type_of% @Try.underlying105 := @Try.underlying105
theorem u109_ : type_of% @Try.underlying109 := @Try.underlying109
theorem u111_ : type_of% @Try.underlying111 := @Try.underlying111
theorem u127_ : type_of% @Try.underlying127 := @Try.underlying127
theorem u138_ : type_of% @Try.underlying138 := @Try.underlying138
theorem u143_ : type_of% @Try.underlying143 := @Try.underlying143
theorem u174_ : type_of% @Try.underlying174 := @Try.underlying174
theorem u187_ : type_of% @Try.underlying187 := @Try.underlying187
section
variable {ρ : Operand → Value} {d : Option Nat} {ty : TypeId} {pos : String} {af : Array Edge} {g : Option (Nat × Bool)} {w : World} {x : Operand} {b o : Nat}
theorem f26_0 (h : ρ x = .pointer (some ⟨b, o, none⟩)) : Yl Try.prog ρ (.fieldAddr 26 x 0) d ty pos af g w (.pointer (some ⟨b, o, none⟩)) := xFld0 Try.underlying26 rfl rfl ti23 (by decide) h
theorem f26_1 (h : ρ x = .pointer (some ⟨b, o, none⟩)) : Yl Try.prog ρ (.fieldAddr 26 x 1) d ty pos af g w (.pointer (some ⟨b, o + 1, none⟩)) := xFld (k := 1) Try.underlying26 rfl rfl ti24 (by decide) h
theorem f30_0 (h : ρ x = .pointer (some ⟨b, o, none⟩)) : Yl Try.prog ρ (.fieldAddr 30 x 0) d ty pos af g w (.pointer (some ⟨b, o, none⟩)) := xFld0 Try.underlying30 rfl rfl ti26 (by decide) h
theorem f30_2 (h : ρ x = .pointer (some ⟨b, o, none⟩)) : Yl Try.prog ρ (.fieldAddr 30 x 1) d ty pos af g w (.pointer (some ⟨b, o + 2, none⟩)) := xFld (k := 2) Try.underlying30 rfl rfl ti27 (by decide) h
theorem f30_3 (h : ρ x = .pointer (some ⟨b, o, none⟩)) : Yl Try.prog ρ (.fieldAddr 30 x 2) d ty pos af g w (.pointer (some ⟨b, o + 3, none⟩)) := xFld (k := 3) Try.underlying30 rfl rfl ti28 (by decide) h
theorem f59_0 (h : ρ x = .pointer (some ⟨b, o, none⟩)) : Yl Try.prog ρ (.fieldAddr 59 x 0) d ty pos af g w (.pointer (some ⟨b, o, none⟩)) := xFld0 Try.underlying59 rfl rfl ti9 (by decide) h
theorem f59_1 (h : ρ x = .pointer (some ⟨b, o, none⟩)) : Yl Try.prog ρ (.fieldAddr 59 x 1) d ty pos af g w (.pointer (some ⟨b, o + 1, none⟩)) := xFld (k := 1) Try.underlying59 rfl rfl ti3 (by decide) h
theorem f59_2 (h : ρ x = .pointer (some ⟨b, o, none⟩)) : Yl Try.prog ρ (.fieldAddr 59 x 2) d ty pos af g w (.pointer (some ⟨b, o + 2, none⟩)) := xFld (k := 2) Try.underlying59 rfl rfl ti3 (by decide) h
theorem f59_3 (h : ρ x = .pointer (some ⟨b, o, none⟩)) : Yl Try.prog ρ (.fieldAddr 59 x 3) d ty pos af g w (.pointer (some ⟨b, o + 3, none⟩)) := xFld (k := 3) Try.underlying59 rfl rfl ti3 (by decide) h
theorem f59_5 (h : ρ x = .pointer (some ⟨b, o, none⟩)) : Yl Try.prog ρ (.fieldAddr 59 x 5) d ty pos af g w (.pointer (some ⟨b, o + 5, none⟩)) := xFld (k := 5) Try.underlying59 rfl rfl ti3 (by decide) h
theorem f59_6 (h : ρ x = .pointer (some ⟨b, o, none⟩)) : Yl Try.prog ρ (.fieldAddr 59 x 6) d ty pos af g w (.pointer (some ⟨b, o + 6, none⟩)) := xFld (k := 6) Try.underlying59 rfl rfl ti3 (by decide) h
theorem f82_0 (h : ρ x = .pointer (some ⟨b, o, none⟩)) : Yl Try.prog ρ (.fieldAddr 82 x 0) d ty pos af g w (.pointer (some ⟨b, o, none⟩)) := xFld0 Try.underlying82 rfl rfl ti9 (by decide) h
theorem f82_1 (h : ρ x = .pointer (some ⟨b, o, none⟩)) : Yl Try.prog ρ (.fieldAddr 82 x 1) d ty pos af g w (.pointer (some ⟨b, o + 1, none⟩)) := xFld (k := 1) Try.underlying82 rfl rfl ti3 (by decide) h
theorem f82_2 (h : ρ x = .pointer (some ⟨b, o, none⟩)) : Yl Try.prog ρ (.fieldAddr 82 x 2) d ty pos af g w (.pointer (some ⟨b, o + 2, none⟩)) := xFld (k := 2) Try.underlying82 rfl rfl ti70 (by decide) h
theorem f82_3 (h : ρ x = .pointer (some ⟨b, o, none⟩)) : Yl Try.prog ρ (.fieldAddr 82 x 3) d ty pos af g w (.pointer (some ⟨b, o + 3, none⟩)) := xFld (k := 3) Try.underlying82 rfl rfl ti80 (by decide) h
theorem f102_0 (h : ρ x = .pointer (some ⟨b, o, none⟩)) : Yl Try.prog ρ (.fieldAddr 102 x 0) d ty pos af g w (.pointer (some ⟨b, o, none⟩)) := xFld0 Try.underlying102 rfl rfl ti97 (by decide) h
theorem f102_1 (h : ρ x = .pointer (some ⟨b, o, none⟩)) : Yl Try.prog ρ (.fieldAddr 102 x 1) d ty pos af g w (.pointer (some ⟨b, o + 1, none⟩)) := xFld (k := 1) Try.underlying102 rfl rfl ti3 (by decide) h
theorem f102_2 (h : ρ x = .pointer (some ⟨b, o, none⟩)) : Yl Try.prog ρ (.fieldAddr 102 x 2) d ty pos af g w (.pointer (some ⟨b, o + 2, none⟩)) := xFld (k := 2) Try.underlying102 rfl rfl ti3 (by decide) h
theorem f102_3 (h : ρ x = .pointer (some ⟨b, o, none⟩)) : Yl Try.prog ρ (.fieldAddr 102 x 3) d ty pos af g w (.pointer (some ⟨b, o + 3, none⟩)) := xFld (k := 3) Try.underlying102 rfl rfl ti37 (by decide) h
theorem f107_0 (h : ρ x = .pointer (some ⟨b, o, none⟩)) : Yl Try.prog ρ (.fieldAddr 107 x 0) d ty pos af g w (.pointer (some ⟨b, o, none⟩)) := xFld0 Try.underlying107 rfl rfl ti105 (by decide) h
theorem f107_1 (h : ρ x = .pointer (some ⟨b, o, none⟩)) : Yl Try.prog ρ (.fieldAddr 107 x 1) d ty pos af g w (.pointer (some ⟨b, o + 1, none⟩)) := xFld (k := 1) Try.underlying107 rfl rfl ti105 (by decide) h
theorem f107_2 (h : ρ x = .pointer (some ⟨b, o, none⟩)) : Yl Try.prog ρ (.fieldAddr 107 x 2) d ty pos af g w (.pointer (some ⟨b, o + 2, none⟩)) := xFld (k := 2) Try.underlying107 rfl rfl ti30 (by decide) h
theorem f107_6 (h : ρ x = .pointer (some ⟨b, o, none⟩)) : Yl Try.prog ρ (.fieldAddr 107 x 3) d ty pos af g w (.pointer (some ⟨b, o + 6, none⟩)) := xFld (k := 6) Try.underlying107 rfl rfl ti22 (by decide) h
theorem f107_7 (h : ρ x = .pointer (some ⟨b, o, none⟩)) : Yl Try.prog ρ (.fieldAddr 107 x 4) d ty pos af g w (.pointer (some ⟨b, o + 7, none⟩)) := xFld (k := 7) Try.underlying107 rfl rfl ti60 (by decide) h
theorem f107_8 (h : ρ x = .pointer (some ⟨b, o, none⟩)) : Yl Try.prog ρ (.fieldAddr 107 x 5) d ty pos af g w (.pointer (some ⟨b, o + 8, none⟩)) := xFld (k := 8) Try.underlying107 rfl rfl ti22 (by decide) h
theorem f107_9 (h : ρ x = .pointer (some ⟨b, o, none⟩)) : Yl Try.prog ρ (.fieldAddr 107 x 6) d ty pos af g w (.pointer (some ⟨b, o + 9, none⟩)) := xFld (k := 9) Try.underlying107 rfl rfl ti3 (by decide) h
theorem f107_10 (h : ρ x = .pointer (some ⟨b, o, none⟩)) : Yl Try.prog ρ (.fieldAddr 107 x 7) d ty pos af g w (.pointer (some ⟨b, o + 10, none⟩)) := xFld (k := 10) Try.underlying107 rfl rfl ti3 (by decide) h
theorem f111_0 (h : ρ x = .pointer (some ⟨b, o, none⟩)) : Yl Try.prog ρ (.fieldAddr 111 x 0) d ty pos af g w (.pointer (some ⟨b, o, none⟩)) := xFld0 Try.underlying111 rfl rfl ti3 (by decide) h
theorem f111_1 (h : ρ x = .pointer (some ⟨b, o, none⟩)) : Yl Try.prog ρ (.fieldAddr 111 x 1) d ty pos af g w (.pointer (some ⟨b, o + 1, none⟩)) := xFld (k := 1) Try.underlying111 rfl rfl ti3 (by decide) h
theorem f111_2 (h : ρ x = .pointer (some ⟨b, o, none⟩)) : Yl Try.prog ρ (.fieldAddr 111 x 2) d ty pos af g w (.pointer (some ⟨b, o + 2, none⟩)) := xFld (k := 2) Try.underlying111 rfl rfl ti3 (by decide) h
theorem f111_3 (h : ρ x = .pointer (some ⟨b, o, none⟩)) : Yl Try.prog ρ (.fieldAddr 111 x 3) d ty pos af g w (.pointer (some ⟨b, o + 3, none⟩)) := xFld (k := 3) Try.underlying111 rfl rfl ti9 (by decide) h
theorem f111_4 (h : ρ x = .pointer (some ⟨b, o, none⟩)) : Yl Try.prog ρ (.fieldAddr 111 x 4) d ty pos af g w (.pointer (some ⟨b, o + 4, none⟩)) := xFld (k := 4) Try.underlying111 rfl rfl ti9 (by decide) h
theorem f111_5 (h : ρ x = .pointer (some ⟨b, o, none⟩)) : Yl Try.prog ρ (.fieldAddr 111 x 5) d ty pos af g w (.pointer (some ⟨b, o + 5, none⟩)) := xFld (k := 5) Try.underlying111 rfl rfl ti3 (by decide) h
theorem f111_6 (h : ρ x = .pointer (some ⟨b, o, none⟩)) : Yl Try.prog ρ (.fieldAddr 111 x 6) d ty pos af g w (.pointer (some ⟨b, o + 6, none⟩)) := xFld (k := 6) Try.underlying111 rfl rfl ti3 (by decide) h
theorem f111_7 (h : ρ x = .pointer (some ⟨b, o, none⟩)) : Yl Try.prog ρ (.fieldAddr 111 x 7) d ty pos af g w (.pointer (some ⟨b, o + 7, none⟩)) := xFld (k := 7) Try.underlying111 rfl rfl ti109 (by decide) h
theorem f111_8 (h : ρ x = .pointer (some ⟨b, o, none⟩)) : Yl Try.prog ρ (.fieldAddr 111 x 8) d ty pos af g w (.pointer (some ⟨b, o + 8, none⟩)) := xFld (k := 8) Try.underlying111 rfl rfl ti9 (by decide) h
theorem f111_9 (h : ρ x = .pointer (some ⟨b, o, none⟩)) : Yl Try.prog ρ (.fieldAddr 111 x 9) d ty pos af g w (.pointer (some ⟨b, o + 9, none⟩)) := xFld (k := 9) Try.underlying111 rfl rfl ti3 (by decide) h
theorem f111_10 (h : ρ x = .pointer (some ⟨b, o, none⟩)) : Yl Try.prog ρ (.fieldAddr 111 x 10) d ty pos af g w (.pointer (some ⟨b, o + 10, none⟩)) := xFld (k := 10) Try.underlying111 rfl rfl ti109 (by decide) h
theorem f111_11 (h : ρ x = .pointer (some ⟨b, o, none⟩)) : Yl Try.prog ρ (.fieldAddr 111 x 11) d ty pos af g w (.pointer (some ⟨b, o + 11, none⟩)) := xFld (k := 11) Try.underlying111 rfl rfl ti80 (by decide) h
theorem f111_12 (h : ρ x = .pointer (some ⟨b, o, none⟩)) : Yl Try.prog ρ (.fieldAddr 111 x 12) d ty pos af g w (.pointer (some ⟨b, o + 12, none⟩)) := xFld (k := 12) Try.underlying111 rfl rfl ti80 (by decide) h
theorem f127_0 (h : ρ x = .pointer (some ⟨b, o, none⟩)) : Yl Try.prog ρ (.fieldAddr 127 x 0) d ty pos af g w (.pointer (some ⟨b, o, none⟩)) := xFld0 Try.underlying127 rfl rfl ti9 (by decide) h
theorem f127_1 (h : ρ x = .pointer (some ⟨b, o, none⟩)) : Yl Try.prog ρ (.fieldAddr 127 x 1) d ty pos af g w (.pointer (some ⟨b, o + 1, none⟩)) := xFld (k := 1) Try.underlying127 rfl rfl ti70 (by decide) h
theorem f132_0 (h : ρ x = .pointer (some ⟨b, o, none⟩)) : Yl Try.prog ρ (.fieldAddr 132 x 0) d ty pos af g w (.pointer (some ⟨b, o, none⟩)) := xFld0 Try.underlying132 rfl rfl ti22 (by decide) h
theorem f132_1 (h : ρ x = .pointer (some ⟨b, o, none⟩)) : Yl Try.prog ρ (.fieldAddr 132 x 1) d ty pos af g w (.pointer (some ⟨b, o + 1, none⟩)) := xFld (k := 1) Try.underlying132 rfl rfl ti3 (by decide) h
theorem f135_0 (h : ρ x = .pointer (some ⟨b, o, none⟩)) : Yl Try.prog ρ (.fieldAddr 135 x 0) d ty pos af g w (.pointer (some ⟨b, o, none⟩)) := xFld0 Try.underlying135 rfl rfl ti130 (by decide) h
theorem f135_1 (h : ρ x = .pointer (some ⟨b, o, none⟩)) : Yl Try.prog ρ (.fieldAddr 135 x 1) d ty pos af g w (.pointer (some ⟨b, o + 1, none⟩)) := xFld (k := 1) Try.underlying135 rfl rfl ti3 (by decide) h
theorem f135_2 (h : ρ x = .pointer (some ⟨b, o, none⟩)) : Yl Try.prog ρ (.fieldAddr 135 x 2) d ty pos af g w (.pointer (some ⟨b, o + 2, none⟩)) := xFld (k := 2) Try.underlying135 rfl rfl ti3 (by decide) h
theorem f135_3 (h : ρ x = .pointer (some ⟨b, o, none⟩)) : Yl Try.prog ρ (.fieldAddr 135 x 3) d ty pos af g w (.pointer (some ⟨b, o + 3, none⟩)) := xFld (k := 3) Try.underlying135 rfl rfl ti22 (by decide) h
theorem f135_4 (h : ρ x = .pointer (some ⟨b, o, none⟩)) : Yl Try.prog ρ (.fieldAddr 135 x 4) d ty pos af g w (.pointer (some ⟨b, o + 4, none⟩)) := xFld (k := 4) Try.underlying135 rfl rfl ti70 (by decide) h
theorem f135_5 (h : ρ x = .pointer (some ⟨b, o, none⟩)) : Yl Try.prog ρ (.fieldAddr 135 x 5) d ty pos af g w (.pointer (some ⟨b, o + 5, none⟩)) := xFld (k := 5) Try.underlying135 rfl rfl ti70 (by decide) h
theorem f135_6 (h : ρ x = .pointer (some ⟨b, o, none⟩)) : Yl Try.prog ρ (.fieldAddr 135 x 6) d ty pos af g w (.pointer (some ⟨b, o + 6, none⟩)) := xFld (k := 6) Try.underlying135 rfl rfl ti70 (by decide) h
theorem f135_7 (h : ρ x = .pointer (some ⟨b, o, none⟩)) : Yl Try.prog ρ (.fieldAddr 135 x 7) d ty pos af g w (.pointer (some ⟨b, o + 7, none⟩)) := xFld (k := 7) Try.underlying135 rfl rfl ti3 (by decide) h
theorem f135_8 (h : ρ x = .pointer (some ⟨b, o, none⟩)) : Yl Try.prog ρ (.fieldAddr 135 x 8) d ty pos af g w (.pointer (some ⟨b, o + 8, none⟩)) := xFld (k := 8) Try.underlying135 rfl rfl ti3 (by decide) h
theorem f138_0 (h : ρ x = .pointer (some ⟨b, o, none⟩)) : Yl Try.prog ρ (.fieldAddr 138 x 0) d ty pos af g w (.pointer (some ⟨b, o, none⟩)) := xFld0 Try.underlying138 rfl rfl ti3 (by decide) h
theorem f138_1 (h : ρ x = .pointer (some ⟨b, o, none⟩)) : Yl Try.prog ρ (.fieldAddr 138 x 1) d ty pos af g w (.pointer (some ⟨b, o + 1, none⟩)) := xFld (k := 1) Try.underlying138 rfl rfl ti3 (by decide) h
theorem f138_2 (h : ρ x = .pointer (some ⟨b, o, none⟩)) : Yl Try.prog ρ (.fieldAddr 138 x 2) d ty pos af g w (.pointer (some ⟨b, o + 2, none⟩)) := xFld (k := 2) Try.underlying138 rfl rfl ti3 (by decide) h
theorem f138_3 (h : ρ x = .pointer (some ⟨b, o, none⟩)) : Yl Try.prog ρ (.fieldAddr 138 x 3) d ty pos af g w (.pointer (some ⟨b, o + 3, none⟩)) := xFld (k := 3) Try.underlying138 rfl rfl ti9 (by decide) h
theorem f138_4 (h : ρ x = .pointer (some ⟨b, o, none⟩)) : Yl Try.prog ρ (.fieldAddr 138 x 4) d ty pos af g w (.pointer (some ⟨b, o + 4, none⟩)) := xFld (k := 4) Try.underlying138 rfl rfl ti9 (by decide) h
theorem f138_5 (h : ρ x = .pointer (some ⟨b, o, none⟩)) : Yl Try.prog ρ (.fieldAddr 138 x 5) d ty pos af g w (.pointer (some ⟨b, o + 5, none⟩)) := xFld (k := 5) Try.underlying138 rfl rfl ti109 (by decide) h
theorem f143_0 (h : ρ x = .pointer (some ⟨b, o, none⟩)) : Yl Try.prog ρ (.fieldAddr 143 x 0) d ty pos af g w (.pointer (some ⟨b, o, none⟩)) := xFld0 Try.underlying143 rfl rfl ti3 (by decide) h
theorem f143_1 (h : ρ x = .pointer (some ⟨b, o, none⟩)) : Yl Try.prog ρ (.fieldAddr 143 x 1) d ty pos af g w (.pointer (some ⟨b, o + 1, none⟩)) := xFld (k := 1) Try.underlying143 rfl rfl ti3 (by decide) h
theorem f143_2 (h : ρ x = .pointer (some ⟨b, o, none⟩)) : Yl Try.prog ρ (.fieldAddr 143 x 2) d ty pos af g w (.pointer (some ⟨b, o + 2, none⟩)) := xFld (k := 2) Try.underlying143 rfl rfl ti9 (by decide) h
theorem f143_3 (h : ρ x = .pointer (some ⟨b, o, none⟩)) : Yl Try.prog ρ (.fieldAddr 143 x 3) d ty pos af g w (.pointer (some ⟨b, o + 3, none⟩)) := xFld (k := 3) Try.underlying143 rfl rfl ti3 (by decide) h
theorem l3 {t : TypeId} {cs : Array Value} {v : Value} (h : ρ x = .pointer (some ⟨b, o, none⟩)) (hb : Blk w b t cs) (hi : cs[o]? = some v) : Yl Try.prog ρ (.load 3 x) d ty pos af g w v := xLoad Try.underlying3 rfl h (hb.cell hi)
theorem l4 {t : TypeId} {cs : Array Value} {v : Value} (h : ρ x = .pointer (some ⟨b, o, none⟩)) (hb : Blk w b t cs) (hi : cs[o]? = some v) : Yl Try.prog ρ (.load 4 x) d ty pos af g w v := xLoad Try.underlying4 rfl h (hb.cell hi)
theorem l9 {t : TypeId} {cs : Array Value} {v : Value} (h : ρ x = .pointer (some ⟨b, o, none⟩)) (hb : Blk w b t cs) (hi : cs[o]? = some v) : Yl Try.prog ρ (.load 9 x) d ty pos af g w v := xLoad Try.underlying9 rfl h (hb.cell hi)
theorem l22 {t : TypeId} {cs : Array Value} {v : Value} (h : ρ x = .pointer (some ⟨b, o, none⟩)) (hb : Blk w b t cs) (hi : cs[o]? = some v) : Yl Try.prog ρ (.load 22 x) d ty pos af g w v := xLoad Try.underlying22 rfl h (hb.cell hi)
theorem l23 {t : TypeId} {cs : Array Value} {v : Value} (h : ρ x = .pointer (some ⟨b, o, none⟩)) (hb : Blk w b t cs) (hi : cs[o]? = some v) : Yl Try.prog ρ (.load 23 x) d ty pos af g w v := xLoad Try.underlying23 rfl h (hb.cell hi)
theorem l24 {t : TypeId} {cs : Array Value} {v : Value} (h : ρ x = .pointer (some ⟨b, o, none⟩)) (hb : Blk w b t cs) (hi : cs[o]? = some v) : Yl Try.prog ρ (.load 24 x) d ty pos af g w v := xLoad Try.underlying24 rfl h (hb.cell hi)
theorem l27 {t : TypeId} {cs : Array Value} {v : Value} (h : ρ x = .pointer (some ⟨b, o, none⟩)) (hb : Blk w b t cs) (hi : cs[o]? = some v) : Yl Try.prog ρ (.load 27 x) d ty pos af g w v := xLoad Try.underlying27 rfl h (hb.cell hi)
theorem l28 {t : TypeId} {cs : Array Value} {v : Value} (h : ρ x = .pointer (some ⟨b, o, none⟩)) (hb : Blk w b t cs) (hi : cs[o]? = some v) : Yl Try.prog ρ (.load 28 x) d ty pos af g w v := xLoad Try.underlying28 rfl h (hb.cell hi)
theorem l37 {t : TypeId} {cs : Array Value} {v : Value} (h : ρ x = .pointer (some ⟨b, o, none⟩)) (hb : Blk w b t cs) (hi : cs[o]? = some v) : Yl Try.prog ρ (.load 37 x) d ty pos af g w v := xLoad Try.underlying37 rfl h (hb.cell hi)
theorem l60 {t : TypeId} {cs : Array Value} {v : Value} (h : ρ x = .pointer (some ⟨b, o, none⟩)) (hb : Blk w b t cs) (hi : cs[o]? = some v) : Yl Try.prog ρ (.load 60 x) d ty pos af g w v := xLoad Try.underlying60 rfl h (hb.cell hi)
theorem l70 {t : TypeId} {cs : Array Value} {v : Value} (h : ρ x = .pointer (some ⟨b, o, none⟩)) (hb : Blk w b t cs) (hi : cs[o]? = some v) : Yl Try.prog ρ (.load 70 x) d ty pos af g w v := xLoad Try.underlying70 rfl h (hb.cell hi)
theorem l80 {t : TypeId} {cs : Array Value} {v : Value} (h : ρ x = .pointer (some ⟨b, o, none⟩)) (hb : Blk w b t cs) (hi : cs[o]? = some v) : Yl Try.prog ρ (.load 80 x) d ty pos af g w v := xLoad Try.underlying80 rfl h (hb.cell hi)
theorem l97 {t : TypeId} {cs : Array Value} {v : Value} (h : ρ x = .pointer (some ⟨b, o, none⟩)) (hb : Blk w b t cs) (hi : cs[o]? = some v) : Yl Try.prog ρ (.load 97 x) d ty pos af g w v := xLoad Try.underlying97 rfl h (hb.cell hi)
theorem l105 {t : TypeId} {cs : Array Value} {v : Value} (h : ρ x = .pointer (some ⟨b, o, none⟩)) (hb : Blk w b t cs) (hi : cs[o]? = some v) : Yl Try.prog ρ (.load 105 x) d ty pos af g w v := xLoad Try.underlying105 rfl h (hb.cell hi)
theorem l109 {t : TypeId} {cs : Array Value} {v : Value} (h : ρ x = .pointer (some ⟨b, o, none⟩)) (hb : Blk w b t cs) (hi : cs[o]? = some v) : Yl Try.prog ρ (.load 109 x) d ty pos af g w v := xLoad Try.underlying109 rfl h (hb.cell hi)
theorem l130 {t : TypeId} {cs : Array Value} {v : Value} (h : ρ x = .pointer (some ⟨b, o, none⟩)) (hb : Blk w b t cs) (hi : cs[o]? = some v) : Yl Try.prog ρ (.load 130 x) d ty pos af g w v := xLoad Try.underlying130 rfl h (hb.cell hi)
end
section
variable {P : Program} {N : Nat} {ops : Array Oper} {f : Fr} {w w0 : World} {n : Nat} {K : Fr → World → Prop} {Lb : Array Bool} {T : List Nat} {Y G : Nat → Prop} {L : List It} {D : List Da} {S1 S : World → Prop}
theorem pF (i : Nat) {oi : Oper} {v : Value} (hi : ops[i]? = some oi) (hy : ∀ {w : World}, (execOp (ev f) oi).run P w = .ok (.value v) w) (hs : S1 w)
 (k : WPh' P N ops S1 (fun _ => True) T K n (Lb.setIfInBounds i true) (updO f oi.dst v) w) (hw : wantF ops f oi.guard = true := by exact rfl) (hc : may ops T Lb i = true := by kernel_rfl) : WPh' P N ops S1 (fun _ => True) T K (n + 1) Lb f w := tP i hi (fun _ => hy) (sF hs) k hw hc
theorem pL (i : Nat) {oi : Oper} {v : Value} (hi : ops[i]? = some oi) (hy : ∀ {w : World}, (execOp (ev f) oi).run P w = .ok (.value v) w) (hs : S1 w) (hu : S w)
 (k : WPh' P N ops S1 S T K n (Lb.setIfInBounds i true) (updO f oi.dst v) w) (hw : wantF ops f oi.guard = true := by exact rfl) (hc : may ops T Lb i = true := by kernel_rfl) : WPh' P N ops S1 S T K (n + 1) Lb f w := tP i hi (fun _ => hy) (sl_of' hs hu) k hw hc
theorem uF (i : Nat) {oi : Oper} {v : Value} (hi : ops[i]? = some oi) (hy : ∀ {w : World}, S1 w → (execOp (ev f) oi).run P w = .ok (.value v) w) (hs : S1 w)
 (k : WPh' P N ops S1 (fun _ => True) T K n (Lb.setIfInBounds i true) (updO f oi.dst v) w) (hw : wantF ops f oi.guard = true := by exact rfl) (hc : may ops T Lb i = true := by kernel_rfl) : WPh' P N ops S1 (fun _ => True) T K (n + 1) Lb f w := tU i hi (fun _ => hy) (sF hs) k hw hc
theorem hO (i : Nat) (h : One' P N ops S1 S T K n Lb f w i) (hr : Region.ready .any ops Lb = [i] := by kernel_rfl) : WPh' P N ops S1 S T K (n + 1) Lb f w := hOne' i hr h
theorem hD (h : K f w) (hr : Region.ready .any ops Lb = [] := by kernel_rfl) : WPh' P N ops S1 S T K n Lb f w := hDone' hr h
theorem sy (t : Nat) (h1 : S1 w) (h : (T.contains t && Lb.getD t false) = true := by kernel_rfl) : SL' S1 T S Lb w := sl_late' t h1 h
theorem cf {g : FuncId} {fn : Func} {c : Code} {args : Array Value} {R : Value → World → Prop} (hf : P.funcs[g]? = some fn) (hb : fn.body = some c)
 (h : WP P fn.ntmps c { n := Reads P fn R, x := fun _ _ _ => False, r := Reads P fn R } (frame0 args) w) (hs : Nat.ble args.size fn.ntmps = true := by exact rfl) (hok : okc fn.ntmps c = true := by kernel_rfl) : Calls P g args w (Ret R) := calls_of hf hb (Nat.le_of_ble_eq_true hs) hok h
end
end
end Go.Proofs.Ytfglbdkfnphjgaa
namespace Go.Fw
theorem Bx.ad {w0 w : World} {Y G : Nat → Prop} {L : List It} {D : List Da} (h : Bx w0 w Y G L D) (l m : List Nat) (hn : nodup l = true := by exact rfl) : Bx w0 w Y G (pick L l) (pick D m) := (h.arr l hn).dp m
theorem Bx.le {w0 w : World} {Y G : Nat → Prop} {L : List It} {D : List Da} {e : Nat} (h : Bx w0 w Y G L D) (k : e ≤ w0.heap.size) : e ≤ w.heap.size := Nat.le_trans k h.chg.size
end Go.Fw
