/- Short words for the printed walks. -/
import Derived.Test.YtfglbdkfnphjgaaLt
set_option linter.unusedVariables false
namespace Go.Proofs.Ytfglbdkfnphjgaa
open Go.RowKit Go.Fw
noncomputable section
abbrev Z {α : Type} (a : Option Addr) (l : List α) (c : Nat) : Value := .slice a l.length c
abbrev V (n : Int) : Value := Vi n
abbrev T (n : ByteArray) : Value := Vt n
abbrev sz (α : Type) [Rp α] : Nat := Rp.sz α
abbrev O (e : Nat) (a : Option Addr) (c : Nat) (t : TypeId) (α : Type) [Rp α] (q : List (List Value)) : It := .own e a c t (Rp.sz α) q
theorem ca {α : Type} {a : α} {l m : List α} : a :: l ++ m = a :: (l ++ m) := rfl
theorem na {α : Type} {l : List α} : [] ++ l = l := rfl
theorem cb {a b : Bool} (h : a = b) : Value.bool a = .bool b := congrArg Value.bool h
theorem s : type_of% @Sb := @Sb
theorem q : type_of% @VI := @VI
theorem g : type_of% @UA := @UA
theorem n : type_of% @Tm := @Tm
theorem y : type_of% @trivial := @trivial
theorem mp : type_of% @Tn := @Tn
theorem mi : type_of% @UW := @UW
theorem xn : type_of% @Uw := @Uw
theorem xi : type_of% @TS := @TS
theorem wk : type_of% @QG := @QG
theorem sc : type_of% @QW := @QW
theorem ec : type_of% @QH := @QH
theorem iv : type_of% @kF := @kF
theorem tb : type_of% @Qd := @Qd
theorem mH : type_of% @LY := @LY
theorem oc : type_of% @NR := @NR
theorem oo : type_of% @TY := @TY
theorem os : type_of% @TW := @TW
theorem oP : type_of% @ll.nil := @ll.nil
abbrev BA := ByteArray
abbrev Gv := jA
abbrev Gi := ky
abbrev Ge := jL
abbrev Gs := jM
abbrev Gr := kD
abbrev Gn := kC
abbrev Gm := lK
abbrev Gc := jD
abbrev Gt := fV
theorem EU : type_of% @Try.underlying3 := @Try.underlying3
theorem TU : type_of% @Try.underlying5 := @Try.underlying5
theorem rH : type_of% @Try.underlying9 := @Try.underlying9
theorem vE : type_of% @Try.underlying22 := @Try.underlying22
theorem AC : type_of% @Try.underlying23 := @Try.underlying23
theorem yR : type_of% @Try.underlying24 := @Try.underlying24
theorem BJ : type_of% @Try.underlying26 := @Try.underlying26
theorem Bd : type_of% @Try.underlying27 := @Try.underlying27
theorem Ca : type_of% @Try.underlying28 := @Try.underlying28
theorem G6 : type_of% @Try.underlying30 := @Try.underlying30
theorem HY : type_of% @Try.underlying59 := @Try.underlying59
theorem uZ : type_of% @Try.underlying60 := @Try.underlying60
theorem Ro : type_of% @Try.underlying65 := @Try.underlying65
theorem kL : type_of% @Try.underlying70 := @Try.underlying70
theorem yH : type_of% @Try.underlying80 := @Try.underlying80
theorem Bv : type_of% @Try.underlying82 := @Try.underlying82
theorem Du : type_of% @Try.underlying97 := @Try.underlying97
theorem Fg : type_of% @Try.underlying105 := @Try.underlying105
theorem qJ : type_of% @Try.underlying109 := @Try.underlying109
theorem lG : type_of% @Try.underlying111 := @Try.underlying111
theorem Jj : type_of% @Try.underlying127 := @Try.underlying127
theorem mo : type_of% @Try.underlying138 := @Try.underlying138
theorem CO : type_of% @Try.underlying143 := @Try.underlying143
theorem Pb : type_of% @Try.underlying174 := @Try.underlying174
theorem MO : type_of% @Try.underlying187 := @Try.underlying187
section
variable {ρ : Operand → Value} {d : Option Nat} {ty : TypeId} {pos : String} {af : Array Edge} {g : Option (Nat × Bool)} {w : World} {x : Operand} {b o : Nat}
theorem wE (h : ρ x = .pointer (some ⟨b, o, none⟩)) : Yl Try.prog ρ (.fieldAddr 26 x 0) d ty pos af g w (.pointer (some ⟨b, o, none⟩)) := Bp Try.underlying26 rfl rfl RI (by decide) h
theorem vS (h : ρ x = .pointer (some ⟨b, o, none⟩)) : Yl Try.prog ρ (.fieldAddr 26 x 1) d ty pos af g w (.pointer (some ⟨b, o + 1, none⟩)) := qo (k := 1) Try.underlying26 rfl rfl Qs (by decide) h
theorem zU (h : ρ x = .pointer (some ⟨b, o, none⟩)) : Yl Try.prog ρ (.fieldAddr 30 x 0) d ty pos af g w (.pointer (some ⟨b, o, none⟩)) := Bp Try.underlying30 rfl rfl uI (by decide) h
theorem vV (h : ρ x = .pointer (some ⟨b, o, none⟩)) : Yl Try.prog ρ (.fieldAddr 30 x 1) d ty pos af g w (.pointer (some ⟨b, o + 2, none⟩)) := qo (k := 2) Try.underlying30 rfl rfl Ry (by decide) h
theorem zT (h : ρ x = .pointer (some ⟨b, o, none⟩)) : Yl Try.prog ρ (.fieldAddr 30 x 2) d ty pos af g w (.pointer (some ⟨b, o + 3, none⟩)) := qo (k := 3) Try.underlying30 rfl rfl RD (by decide) h
theorem MW (h : ρ x = .pointer (some ⟨b, o, none⟩)) : Yl Try.prog ρ (.fieldAddr 59 x 0) d ty pos af g w (.pointer (some ⟨b, o, none⟩)) := Bp Try.underlying59 rfl rfl pV (by decide) h
theorem Jc (h : ρ x = .pointer (some ⟨b, o, none⟩)) : Yl Try.prog ρ (.fieldAddr 59 x 1) d ty pos af g w (.pointer (some ⟨b, o + 1, none⟩)) := qo (k := 1) Try.underlying59 rfl rfl pJ (by decide) h
theorem Nc (h : ρ x = .pointer (some ⟨b, o, none⟩)) : Yl Try.prog ρ (.fieldAddr 59 x 2) d ty pos af g w (.pointer (some ⟨b, o + 2, none⟩)) := qo (k := 2) Try.underlying59 rfl rfl pJ (by decide) h
theorem MM (h : ρ x = .pointer (some ⟨b, o, none⟩)) : Yl Try.prog ρ (.fieldAddr 59 x 3) d ty pos af g w (.pointer (some ⟨b, o + 3, none⟩)) := qo (k := 3) Try.underlying59 rfl rfl pJ (by decide) h
theorem NZ (h : ρ x = .pointer (some ⟨b, o, none⟩)) : Yl Try.prog ρ (.fieldAddr 59 x 5) d ty pos af g w (.pointer (some ⟨b, o + 5, none⟩)) := qo (k := 5) Try.underlying59 rfl rfl pJ (by decide) h
theorem IY (h : ρ x = .pointer (some ⟨b, o, none⟩)) : Yl Try.prog ρ (.fieldAddr 59 x 6) d ty pos af g w (.pointer (some ⟨b, o + 6, none⟩)) := qo (k := 6) Try.underlying59 rfl rfl pJ (by decide) h
theorem CP (h : ρ x = .pointer (some ⟨b, o, none⟩)) : Yl Try.prog ρ (.fieldAddr 82 x 0) d ty pos af g w (.pointer (some ⟨b, o, none⟩)) := Bp Try.underlying82 rfl rfl pV (by decide) h
theorem ET (h : ρ x = .pointer (some ⟨b, o, none⟩)) : Yl Try.prog ρ (.fieldAddr 82 x 1) d ty pos af g w (.pointer (some ⟨b, o + 1, none⟩)) := qo (k := 1) Try.underlying82 rfl rfl pJ (by decide) h
theorem zD (h : ρ x = .pointer (some ⟨b, o, none⟩)) : Yl Try.prog ρ (.fieldAddr 82 x 2) d ty pos af g w (.pointer (some ⟨b, o + 2, none⟩)) := qo (k := 2) Try.underlying82 rfl rfl pO (by decide) h
theorem Av (h : ρ x = .pointer (some ⟨b, o, none⟩)) : Yl Try.prog ρ (.fieldAddr 82 x 3) d ty pos af g w (.pointer (some ⟨b, o + 3, none⟩)) := qo (k := 3) Try.underlying82 rfl rfl yG (by decide) h
theorem zO (h : ρ x = .pointer (some ⟨b, o, none⟩)) : Yl Try.prog ρ (.fieldAddr 102 x 0) d ty pos af g w (.pointer (some ⟨b, o, none⟩)) := Bp Try.underlying102 rfl rfl VA (by decide) h
theorem mM (h : ρ x = .pointer (some ⟨b, o, none⟩)) : Yl Try.prog ρ (.fieldAddr 102 x 1) d ty pos af g w (.pointer (some ⟨b, o + 1, none⟩)) := qo (k := 1) Try.underlying102 rfl rfl pJ (by decide) h
theorem Pi (h : ρ x = .pointer (some ⟨b, o, none⟩)) : Yl Try.prog ρ (.fieldAddr 102 x 2) d ty pos af g w (.pointer (some ⟨b, o + 2, none⟩)) := qo (k := 2) Try.underlying102 rfl rfl pJ (by decide) h
theorem tO (h : ρ x = .pointer (some ⟨b, o, none⟩)) : Yl Try.prog ρ (.fieldAddr 102 x 3) d ty pos af g w (.pointer (some ⟨b, o + 3, none⟩)) := qo (k := 3) Try.underlying102 rfl rfl Qm (by decide) h
theorem Ma (h : ρ x = .pointer (some ⟨b, o, none⟩)) : Yl Try.prog ρ (.fieldAddr 107 x 0) d ty pos af g w (.pointer (some ⟨b, o, none⟩)) := Bp Try.underlying107 rfl rfl QC (by decide) h
theorem LM (h : ρ x = .pointer (some ⟨b, o, none⟩)) : Yl Try.prog ρ (.fieldAddr 107 x 1) d ty pos af g w (.pointer (some ⟨b, o + 1, none⟩)) := qo (k := 1) Try.underlying107 rfl rfl QC (by decide) h
theorem xK (h : ρ x = .pointer (some ⟨b, o, none⟩)) : Yl Try.prog ρ (.fieldAddr 107 x 2) d ty pos af g w (.pointer (some ⟨b, o + 2, none⟩)) := qo (k := 2) Try.underlying107 rfl rfl zM (by decide) h
theorem L9 (h : ρ x = .pointer (some ⟨b, o, none⟩)) : Yl Try.prog ρ (.fieldAddr 107 x 3) d ty pos af g w (.pointer (some ⟨b, o + 6, none⟩)) := qo (k := 6) Try.underlying107 rfl rfl Er (by decide) h
theorem Ac (h : ρ x = .pointer (some ⟨b, o, none⟩)) : Yl Try.prog ρ (.fieldAddr 107 x 4) d ty pos af g w (.pointer (some ⟨b, o + 7, none⟩)) := qo (k := 7) Try.underlying107 rfl rfl Br (by decide) h
theorem BD (h : ρ x = .pointer (some ⟨b, o, none⟩)) : Yl Try.prog ρ (.fieldAddr 107 x 5) d ty pos af g w (.pointer (some ⟨b, o + 8, none⟩)) := qo (k := 8) Try.underlying107 rfl rfl Er (by decide) h
theorem O0 (h : ρ x = .pointer (some ⟨b, o, none⟩)) : Yl Try.prog ρ (.fieldAddr 107 x 6) d ty pos af g w (.pointer (some ⟨b, o + 9, none⟩)) := qo (k := 9) Try.underlying107 rfl rfl pJ (by decide) h
theorem Ed (h : ρ x = .pointer (some ⟨b, o, none⟩)) : Yl Try.prog ρ (.fieldAddr 107 x 7) d ty pos af g w (.pointer (some ⟨b, o + 10, none⟩)) := qo (k := 10) Try.underlying107 rfl rfl pJ (by decide) h
theorem uJ (h : ρ x = .pointer (some ⟨b, o, none⟩)) : Yl Try.prog ρ (.fieldAddr 111 x 0) d ty pos af g w (.pointer (some ⟨b, o, none⟩)) := Bp Try.underlying111 rfl rfl pJ (by decide) h
theorem xm (h : ρ x = .pointer (some ⟨b, o, none⟩)) : Yl Try.prog ρ (.fieldAddr 111 x 1) d ty pos af g w (.pointer (some ⟨b, o + 1, none⟩)) := qo (k := 1) Try.underlying111 rfl rfl pJ (by decide) h
theorem Df (h : ρ x = .pointer (some ⟨b, o, none⟩)) : Yl Try.prog ρ (.fieldAddr 111 x 2) d ty pos af g w (.pointer (some ⟨b, o + 2, none⟩)) := qo (k := 2) Try.underlying111 rfl rfl pJ (by decide) h
theorem xu (h : ρ x = .pointer (some ⟨b, o, none⟩)) : Yl Try.prog ρ (.fieldAddr 111 x 3) d ty pos af g w (.pointer (some ⟨b, o + 3, none⟩)) := qo (k := 3) Try.underlying111 rfl rfl pV (by decide) h
theorem BH (h : ρ x = .pointer (some ⟨b, o, none⟩)) : Yl Try.prog ρ (.fieldAddr 111 x 4) d ty pos af g w (.pointer (some ⟨b, o + 4, none⟩)) := qo (k := 4) Try.underlying111 rfl rfl pV (by decide) h
theorem zN (h : ρ x = .pointer (some ⟨b, o, none⟩)) : Yl Try.prog ρ (.fieldAddr 111 x 5) d ty pos af g w (.pointer (some ⟨b, o + 5, none⟩)) := qo (k := 5) Try.underlying111 rfl rfl pJ (by decide) h
theorem Dl (h : ρ x = .pointer (some ⟨b, o, none⟩)) : Yl Try.prog ρ (.fieldAddr 111 x 6) d ty pos af g w (.pointer (some ⟨b, o + 6, none⟩)) := qo (k := 6) Try.underlying111 rfl rfl pJ (by decide) h
theorem uA (h : ρ x = .pointer (some ⟨b, o, none⟩)) : Yl Try.prog ρ (.fieldAddr 111 x 7) d ty pos af g w (.pointer (some ⟨b, o + 7, none⟩)) := qo (k := 7) Try.underlying111 rfl rfl uk (by decide) h
theorem Ai (h : ρ x = .pointer (some ⟨b, o, none⟩)) : Yl Try.prog ρ (.fieldAddr 111 x 8) d ty pos af g w (.pointer (some ⟨b, o + 8, none⟩)) := qo (k := 8) Try.underlying111 rfl rfl pV (by decide) h
theorem Eo (h : ρ x = .pointer (some ⟨b, o, none⟩)) : Yl Try.prog ρ (.fieldAddr 111 x 9) d ty pos af g w (.pointer (some ⟨b, o + 9, none⟩)) := qo (k := 9) Try.underlying111 rfl rfl pJ (by decide) h
theorem qD (h : ρ x = .pointer (some ⟨b, o, none⟩)) : Yl Try.prog ρ (.fieldAddr 111 x 10) d ty pos af g w (.pointer (some ⟨b, o + 10, none⟩)) := qo (k := 10) Try.underlying111 rfl rfl uk (by decide) h
theorem uo (h : ρ x = .pointer (some ⟨b, o, none⟩)) : Yl Try.prog ρ (.fieldAddr 111 x 11) d ty pos af g w (.pointer (some ⟨b, o + 11, none⟩)) := qo (k := 11) Try.underlying111 rfl rfl yG (by decide) h
theorem tZ (h : ρ x = .pointer (some ⟨b, o, none⟩)) : Yl Try.prog ρ (.fieldAddr 111 x 12) d ty pos af g w (.pointer (some ⟨b, o + 12, none⟩)) := qo (k := 12) Try.underlying111 rfl rfl yG (by decide) h
theorem qU (h : ρ x = .pointer (some ⟨b, o, none⟩)) : Yl Try.prog ρ (.fieldAddr 115 x 0) d ty pos af g w (.pointer (some ⟨b, o, none⟩)) := Bp Try.underlying115 rfl rfl zM (by decide) h
theorem AV (h : ρ x = .pointer (some ⟨b, o, none⟩)) : Yl Try.prog ρ (.fieldAddr 115 x 1) d ty pos af g w (.pointer (some ⟨b, o + 4, none⟩)) := qo (k := 4) Try.underlying115 rfl rfl pJ (by decide) h
theorem Ba (h : ρ x = .pointer (some ⟨b, o, none⟩)) : Yl Try.prog ρ (.fieldAddr 115 x 2) d ty pos af g w (.pointer (some ⟨b, o + 5, none⟩)) := qo (k := 5) Try.underlying115 rfl rfl Er (by decide) h
theorem OY (h : ρ x = .pointer (some ⟨b, o, none⟩)) : Yl Try.prog ρ (.fieldAddr 115 x 3) d ty pos af g w (.pointer (some ⟨b, o + 6, none⟩)) := qo (k := 6) Try.underlying115 rfl rfl pJ (by decide) h
theorem zL (h : ρ x = .pointer (some ⟨b, o, none⟩)) : Yl Try.prog ρ (.fieldAddr 115 x 4) d ty pos af g w (.pointer (some ⟨b, o + 7, none⟩)) := qo (k := 7) Try.underlying115 rfl rfl Qm (by decide) h
theorem Ci (h : ρ x = .pointer (some ⟨b, o, none⟩)) : Yl Try.prog ρ (.fieldAddr 127 x 0) d ty pos af g w (.pointer (some ⟨b, o, none⟩)) := Bp Try.underlying127 rfl rfl pV (by decide) h
theorem wC (h : ρ x = .pointer (some ⟨b, o, none⟩)) : Yl Try.prog ρ (.fieldAddr 127 x 1) d ty pos af g w (.pointer (some ⟨b, o + 1, none⟩)) := qo (k := 1) Try.underlying127 rfl rfl pO (by decide) h
theorem LQ (h : ρ x = .pointer (some ⟨b, o, none⟩)) : Yl Try.prog ρ (.fieldAddr 132 x 0) d ty pos af g w (.pointer (some ⟨b, o, none⟩)) := Bp Try.underlying132 rfl rfl Er (by decide) h
theorem GR (h : ρ x = .pointer (some ⟨b, o, none⟩)) : Yl Try.prog ρ (.fieldAddr 132 x 1) d ty pos af g w (.pointer (some ⟨b, o + 1, none⟩)) := qo (k := 1) Try.underlying132 rfl rfl pJ (by decide) h
theorem qm (h : ρ x = .pointer (some ⟨b, o, none⟩)) : Yl Try.prog ρ (.fieldAddr 135 x 0) d ty pos af g w (.pointer (some ⟨b, o, none⟩)) := Bp Try.underlying135 rfl rfl TF (by decide) h
theorem Si (h : ρ x = .pointer (some ⟨b, o, none⟩)) : Yl Try.prog ρ (.fieldAddr 135 x 1) d ty pos af g w (.pointer (some ⟨b, o + 1, none⟩)) := qo (k := 1) Try.underlying135 rfl rfl pJ (by decide) h
theorem Mh (h : ρ x = .pointer (some ⟨b, o, none⟩)) : Yl Try.prog ρ (.fieldAddr 135 x 2) d ty pos af g w (.pointer (some ⟨b, o + 2, none⟩)) := qo (k := 2) Try.underlying135 rfl rfl pJ (by decide) h
theorem Sy (h : ρ x = .pointer (some ⟨b, o, none⟩)) : Yl Try.prog ρ (.fieldAddr 135 x 3) d ty pos af g w (.pointer (some ⟨b, o + 3, none⟩)) := qo (k := 3) Try.underlying135 rfl rfl Er (by decide) h
theorem nL (h : ρ x = .pointer (some ⟨b, o, none⟩)) : Yl Try.prog ρ (.fieldAddr 135 x 4) d ty pos af g w (.pointer (some ⟨b, o + 4, none⟩)) := qo (k := 4) Try.underlying135 rfl rfl pO (by decide) h
theorem rE (h : ρ x = .pointer (some ⟨b, o, none⟩)) : Yl Try.prog ρ (.fieldAddr 135 x 5) d ty pos af g w (.pointer (some ⟨b, o + 5, none⟩)) := qo (k := 5) Try.underlying135 rfl rfl pO (by decide) h
theorem tJ (h : ρ x = .pointer (some ⟨b, o, none⟩)) : Yl Try.prog ρ (.fieldAddr 135 x 6) d ty pos af g w (.pointer (some ⟨b, o + 6, none⟩)) := qo (k := 6) Try.underlying135 rfl rfl pO (by decide) h
theorem Ep (h : ρ x = .pointer (some ⟨b, o, none⟩)) : Yl Try.prog ρ (.fieldAddr 135 x 7) d ty pos af g w (.pointer (some ⟨b, o + 7, none⟩)) := qo (k := 7) Try.underlying135 rfl rfl pJ (by decide) h
theorem Mo (h : ρ x = .pointer (some ⟨b, o, none⟩)) : Yl Try.prog ρ (.fieldAddr 135 x 8) d ty pos af g w (.pointer (some ⟨b, o + 8, none⟩)) := qo (k := 8) Try.underlying135 rfl rfl pJ (by decide) h
theorem wD (h : ρ x = .pointer (some ⟨b, o, none⟩)) : Yl Try.prog ρ (.fieldAddr 138 x 0) d ty pos af g w (.pointer (some ⟨b, o, none⟩)) := Bp Try.underlying138 rfl rfl pJ (by decide) h
theorem Cs (h : ρ x = .pointer (some ⟨b, o, none⟩)) : Yl Try.prog ρ (.fieldAddr 138 x 1) d ty pos af g w (.pointer (some ⟨b, o + 1, none⟩)) := qo (k := 1) Try.underlying138 rfl rfl pJ (by decide) h
theorem Gu (h : ρ x = .pointer (some ⟨b, o, none⟩)) : Yl Try.prog ρ (.fieldAddr 138 x 2) d ty pos af g w (.pointer (some ⟨b, o + 2, none⟩)) := qo (k := 2) Try.underlying138 rfl rfl pJ (by decide) h
theorem Dq (h : ρ x = .pointer (some ⟨b, o, none⟩)) : Yl Try.prog ρ (.fieldAddr 138 x 3) d ty pos af g w (.pointer (some ⟨b, o + 3, none⟩)) := qo (k := 3) Try.underlying138 rfl rfl pV (by decide) h
theorem G5 (h : ρ x = .pointer (some ⟨b, o, none⟩)) : Yl Try.prog ρ (.fieldAddr 138 x 4) d ty pos af g w (.pointer (some ⟨b, o + 4, none⟩)) := qo (k := 4) Try.underlying138 rfl rfl pV (by decide) h
theorem yS (h : ρ x = .pointer (some ⟨b, o, none⟩)) : Yl Try.prog ρ (.fieldAddr 138 x 5) d ty pos af g w (.pointer (some ⟨b, o + 5, none⟩)) := qo (k := 5) Try.underlying138 rfl rfl uk (by decide) h
theorem LK (h : ρ x = .pointer (some ⟨b, o, none⟩)) : Yl Try.prog ρ (.fieldAddr 143 x 0) d ty pos af g w (.pointer (some ⟨b, o, none⟩)) := Bp Try.underlying143 rfl rfl pJ (by decide) h
theorem Kn (h : ρ x = .pointer (some ⟨b, o, none⟩)) : Yl Try.prog ρ (.fieldAddr 143 x 1) d ty pos af g w (.pointer (some ⟨b, o + 1, none⟩)) := qo (k := 1) Try.underlying143 rfl rfl pJ (by decide) h
theorem JM (h : ρ x = .pointer (some ⟨b, o, none⟩)) : Yl Try.prog ρ (.fieldAddr 143 x 2) d ty pos af g w (.pointer (some ⟨b, o + 2, none⟩)) := qo (k := 2) Try.underlying143 rfl rfl pV (by decide) h
theorem O7 (h : ρ x = .pointer (some ⟨b, o, none⟩)) : Yl Try.prog ρ (.fieldAddr 143 x 3) d ty pos af g w (.pointer (some ⟨b, o + 3, none⟩)) := qo (k := 3) Try.underlying143 rfl rfl pJ (by decide) h
theorem l3 {t : TypeId} {cs : Array Value} {v : Value} (h : ρ x = .pointer (some ⟨b, o, none⟩)) (hb : x9 w b t cs) (hi : cs[o]? = some v) : Yl Try.prog ρ (.load 3 x) d ty pos af g w v := kz Try.underlying3 rfl h (hb.cell hi)
theorem l4 {t : TypeId} {cs : Array Value} {v : Value} (h : ρ x = .pointer (some ⟨b, o, none⟩)) (hb : x9 w b t cs) (hi : cs[o]? = some v) : Yl Try.prog ρ (.load 4 x) d ty pos af g w v := kz Try.underlying4 rfl h (hb.cell hi)
theorem l9 {t : TypeId} {cs : Array Value} {v : Value} (h : ρ x = .pointer (some ⟨b, o, none⟩)) (hb : x9 w b t cs) (hi : cs[o]? = some v) : Yl Try.prog ρ (.load 9 x) d ty pos af g w v := kz Try.underlying9 rfl h (hb.cell hi)
theorem Ko {t : TypeId} {cs : Array Value} {v : Value} (h : ρ x = .pointer (some ⟨b, o, none⟩)) (hb : x9 w b t cs) (hi : cs[o]? = some v) : Yl Try.prog ρ (.load 22 x) d ty pos af g w v := kz Try.underlying22 rfl h (hb.cell hi)
theorem JP {t : TypeId} {cs : Array Value} {v : Value} (h : ρ x = .pointer (some ⟨b, o, none⟩)) (hb : x9 w b t cs) (hi : cs[o]? = some v) : Yl Try.prog ρ (.load 23 x) d ty pos af g w v := kz Try.underlying23 rfl h (hb.cell hi)
theorem Iq {t : TypeId} {cs : Array Value} {v : Value} (h : ρ x = .pointer (some ⟨b, o, none⟩)) (hb : x9 w b t cs) (hi : cs[o]? = some v) : Yl Try.prog ρ (.load 24 x) d ty pos af g w v := kz Try.underlying24 rfl h (hb.cell hi)
theorem Ih {t : TypeId} {cs : Array Value} {v : Value} (h : ρ x = .pointer (some ⟨b, o, none⟩)) (hb : x9 w b t cs) (hi : cs[o]? = some v) : Yl Try.prog ρ (.load 27 x) d ty pos af g w v := kz Try.underlying27 rfl h (hb.cell hi)
theorem MJ {t : TypeId} {cs : Array Value} {v : Value} (h : ρ x = .pointer (some ⟨b, o, none⟩)) (hb : x9 w b t cs) (hi : cs[o]? = some v) : Yl Try.prog ρ (.load 28 x) d ty pos af g w v := kz Try.underlying28 rfl h (hb.cell hi)
theorem CW {t : TypeId} {cs : Array Value} {v : Value} (h : ρ x = .pointer (some ⟨b, o, none⟩)) (hb : x9 w b t cs) (hi : cs[o]? = some v) : Yl Try.prog ρ (.load 37 x) d ty pos af g w v := kz Try.underlying37 rfl h (hb.cell hi)
theorem Qw {t : TypeId} {cs : Array Value} {v : Value} (h : ρ x = .pointer (some ⟨b, o, none⟩)) (hb : x9 w b t cs) (hi : cs[o]? = some v) : Yl Try.prog ρ (.load 60 x) d ty pos af g w v := kz Try.underlying60 rfl h (hb.cell hi)
theorem yF {t : TypeId} {cs : Array Value} {v : Value} (h : ρ x = .pointer (some ⟨b, o, none⟩)) (hb : x9 w b t cs) (hi : cs[o]? = some v) : Yl Try.prog ρ (.load 70 x) d ty pos af g w v := kz Try.underlying70 rfl h (hb.cell hi)
theorem FV {t : TypeId} {cs : Array Value} {v : Value} (h : ρ x = .pointer (some ⟨b, o, none⟩)) (hb : x9 w b t cs) (hi : cs[o]? = some v) : Yl Try.prog ρ (.load 80 x) d ty pos af g w v := kz Try.underlying80 rfl h (hb.cell hi)
theorem NN {t : TypeId} {cs : Array Value} {v : Value} (h : ρ x = .pointer (some ⟨b, o, none⟩)) (hb : x9 w b t cs) (hi : cs[o]? = some v) : Yl Try.prog ρ (.load 97 x) d ty pos af g w v := kz Try.underlying97 rfl h (hb.cell hi)
theorem NF {t : TypeId} {cs : Array Value} {v : Value} (h : ρ x = .pointer (some ⟨b, o, none⟩)) (hb : x9 w b t cs) (hi : cs[o]? = some v) : Yl Try.prog ρ (.load 105 x) d ty pos af g w v := kz Try.underlying105 rfl h (hb.cell hi)
theorem xe {t : TypeId} {cs : Array Value} {v : Value} (h : ρ x = .pointer (some ⟨b, o, none⟩)) (hb : x9 w b t cs) (hi : cs[o]? = some v) : Yl Try.prog ρ (.load 109 x) d ty pos af g w v := kz Try.underlying109 rfl h (hb.cell hi)
theorem yE {t : TypeId} {cs : Array Value} {v : Value} (h : ρ x = .pointer (some ⟨b, o, none⟩)) (hb : x9 w b t cs) (hi : cs[o]? = some v) : Yl Try.prog ρ (.load 130 x) d ty pos af g w v := kz Try.underlying130 rfl h (hb.cell hi)
end
section
variable {P : Program} {N : Nat} {ops : Array Oper} {f : Fr} {w w0 : World} {n : Nat} {K : Fr → World → Prop} {Lb : Array Bool} {T : List Nat} {Y G : Nat → Prop} {L : List It} {D : List Da} {S1 S : World → Prop}
theorem pF (i : Nat) {oi : Oper} {v : Value} (hi : ops[i]? = some oi) (hy : ∀ {w : World}, (execOp (ev f) oi).run P w = .ok (.value v) w) (hs : S1 w)
 (k : vF P N ops S1 (fun _ => True) T K n (Lb.setIfInBounds i true) (zP f oi.dst v) w) (hw : wM ops f oi.guard = true := by exact rfl) (hc : may ops T Lb i = true := by kernel_rfl) : vF P N ops S1 (fun _ => True) T K (n + 1) Lb f w := tP i hi (fun _ => hy) (sF hs) k hw hc
theorem pL (i : Nat) {oi : Oper} {v : Value} (hi : ops[i]? = some oi) (hy : ∀ {w : World}, (execOp (ev f) oi).run P w = .ok (.value v) w) (hs : S1 w) (hu : S w)
 (k : vF P N ops S1 S T K n (Lb.setIfInBounds i true) (zP f oi.dst v) w) (hw : wM ops f oi.guard = true := by exact rfl) (hc : may ops T Lb i = true := by kernel_rfl) : vF P N ops S1 S T K (n + 1) Lb f w := tP i hi (fun _ => hy) (LY hs hu) k hw hc
theorem uF (i : Nat) {oi : Oper} {v : Value} (hi : ops[i]? = some oi) (hy : ∀ {w : World}, S1 w → (execOp (ev f) oi).run P w = .ok (.value v) w) (hs : S1 w)
 (k : vF P N ops S1 (fun _ => True) T K n (Lb.setIfInBounds i true) (zP f oi.dst v) w) (hw : wM ops f oi.guard = true := by exact rfl) (hc : may ops T Lb i = true := by kernel_rfl) : vF P N ops S1 (fun _ => True) T K (n + 1) Lb f w := tU i hi (fun _ => hy) (sF hs) k hw hc
theorem hO (i : Nat) (h : DJ P N ops S1 S T K n Lb f w i) (hr : Region.ready .any ops Lb = [i] := by kernel_rfl) : vF P N ops S1 S T K (n + 1) Lb f w := Tv i hr h
theorem hD (h : K f w) (hr : Region.ready .any ops Lb = [] := by kernel_rfl) : vF P N ops S1 S T K n Lb f w := Ru hr h
theorem sy (t : Nat) (h1 : S1 w) (h : (T.contains t && Lb.getD t false) = true := by kernel_rfl) : Fe S1 T S Lb w := OM t h1 h
theorem cf {g : FuncId} {fn : Func} {c : Code} {args : Array Value} {R : Value → World → Prop} (hf : P.funcs[g]? = some fn) (hb : fn.body = some c)
 (h : WP P fn.ntmps c { n := Reads P fn R, x := fun _ _ _ => False, r := Reads P fn R } (MB args) w) (hs : Nat.ble args.size fn.ntmps = true := by exact rfl) (hok : Ng fn.ntmps c = true := by kernel_rfl) : Calls P g args w (rf R) := Oy hf hb (Nat.le_of_ble_eq_true hs) hok h
end
end
end Go.Proofs.Ytfglbdkfnphjgaa
namespace Go.Fw
theorem Bx.ad {w0 w : World} {Y G : Nat → Prop} {L : List It} {D : List Da} (h : Bx w0 w Y G L D) (l m : List Nat) (hn : nodup l = true := by exact rfl) : Bx w0 w Y G (pick L l) (pick D m) := (h.arr l hn).dp m
theorem Bx.le {w0 w : World} {Y G : Nat → Prop} {L : List It} {D : List Da} {e : Nat} (h : Bx w0 w Y G L D) (k : e ≤ w0.heap.size) : e ≤ w.heap.size := Nat.le_trans k h.rX.size
theorem lV {α β γ:Type} {o:Option (α × β)} {f:α→β→Option γ} {X:γ} (h:(o.bind fun x=>iA x f)=some X):∃ a b,o=some (a,b)∧f a b=some X:=by
 obtain ⟨⟨a,b⟩,h1,h2⟩:=bs h
 exact ⟨a,b,h1,h2⟩
theorem qG {α β γ δ:Type} {o:Option (α × β × γ)} {f:α→β→γ→Option δ} {X:δ} (h:(o.bind fun x=>iA x fun a y=>iA y (f a))=some X):∃ a b c,o=some (a,b,c)∧f a b c=some X:=by
 obtain ⟨⟨a,b,c⟩,h1,h2⟩:=bs h
 exact ⟨a,b,c,h1,h2⟩
theorem Ur {α β γ δ ε:Type} {o:Option (α × β × γ × δ)} {f:α→β→γ→δ→Option ε} {X:ε} (h:(o.bind fun x=>iA x fun a y=>iA y fun b z=>iA z (f a b))=some X):∃ a b c d,o=some (a,b,c,d)∧f a b c d=some X:=by
 obtain ⟨⟨a,b,c,d⟩,h1,h2⟩:=bs h
 exact ⟨a,b,c,d,h1,h2⟩
theorem Ak {α β γ δ:Type} {a:α} {b:β} {c:γ} {f:α→β→γ→δ} {X:δ} (h:iA (a,b,c) (fun x y=>iA y (f x))=X):f a b c=X:=h
theorem mf {α β γ ε δ:Type} {a:α} {b:β} {c:γ} {d:ε} {f:α→β→γ→ε→δ} {X:δ} (h:iA (a,b,c,d) (fun x y=>iA y fun u v=>iA v (f x u))=X):f a b c d=X:=h
section
variable {P:Program} {N:Nat} {ops:Array Oper} {K:Fr→World→Prop} {rest:List Oper} {f:Fr} {w w0:World} {d:Option Nat} {op:Op} {ty:TypeId} {pos:String} {af:Array Edge} {Z G:Nat→Prop} {L:List It} {D:List Da}
theorem tL (h:Bx w0 w Z G L D) {t:TypeId} {cs:Array Value} (e:(execOp (ev f) ⟨d,op,ty,pos,af,none⟩).run P w=.ok (.value (.pointer (some ⟨w.heap.size,0,none⟩))) (w.alloc (.cells cs t))) (k:∀ w' b,Bx w0 w' Z G (.box b t cs :: L) D→JH P N ops K rest (zP f d (.pointer (some ⟨b,0,none⟩))) w'):JH P N ops K (⟨d,op,ty,pos,af,none⟩ :: rest) f w:=qF (rM h e) (by rintro _ w' ⟨b,rfl,h⟩;exact k w' b h)
end
def PT:List Value→Nat→List Value→List Value
 | [],_,_=>[]
 | a :: l,0,[]=>a :: l
 | _ :: l,0,v :: m=>v :: PT l 0 m
 | a :: l,n+1,m=>a :: PT l n m
theorem Mm:∀ (l:List Value) (o:Nat) (m:List Value),o+m.length≤l.length→PT l o m=l.take o ++ m ++ l.drop (o+m.length)
 | [],o,m,h=>by
  have h1:m=[]:=List.length_eq_zero_iff.1 (by simp only [List.length_nil] at h;omega)
  subst h1;simp [PT]
 | a :: l,0,[],_=>by simp [PT]
 | a :: l,0,v :: m,h=>by
  have:=Mm l 0 m (by simp only [List.length_cons] at h;omega)
  simp only [PT,this];simp
 | a :: l,n+1,m,h=>by
  have:=Mm l n m (by simp only [List.length_cons] at h;omega)
  rw [PT,this,show n+1+m.length=(n+m.length)+1 by omega];simp
section
variable {P:Program} {ρ:Operand→Value} {w w' w0:World} {d:Option Nat} {ty:TypeId} {pos:String} {af:Array Edge} {g:Option (Nat × Bool)} {Z G:Nat→Prop} {L L' L1 Lc:List It} {D D' D1:List Da}
theorem nD (hL:Bx w0 w Z G L D) (i:Nat) {t te:TypeId} {x y:Operand} {z:Value} {s by_ b:Nat} {old:Array Value} (vs:List Value) (hi:L[i]?=some (.box b te old)) (ht:TI P t z s by_)
  (hx:ρ x=.pointer (some ⟨b,0,none⟩)) (hy:(ρ y).cells=vs.toArray) (e:L.set i (.box b te vs.toArray)=L':=by (try dsimp only [List.set]);all_goals exact rfl) (hs:s=vs.length:=by exact rfl) (h1:vs.all (fun v=>v.oneCell')=true:=by exact rfl) (hl:Nat.beq vs.length old.size=true:=by exact rfl) :
  QA P ρ ⟨d,.store t x y,ty,pos,af,g⟩ w fun w'=>Bx w0 w' Z G L' D:=by
 have h:=Nat.eq_of_beq_eq_true hl
 subst e
 refine Qd hL i vs hi ht hs hx hy h1 (Nat.ble_eq_true_of_le (by rw [Nat.zero_add,h];exact Nat.le_refl _)) ?_
 rw [Nat.zero_add,List.take_zero,List.nil_append,List.drop_eq_nil_of_le (by rw [h];simp),List.append_nil]
theorem lW (hL:Bx w0 w Z G L D) (i:Nat) {t te:TypeId} {x y:Operand} {z:Value} {s by_ b o:Nat} {old cs':List Value} (vs:List Value) (hi:L[i]?=some (.box b te old.toArray)) (ht:TI P t z s by_)
  (hx:ρ x=.pointer (some ⟨b,o,none⟩)) (hy:(ρ y).cells=vs.toArray) (hc:PT old o vs=cs':=by (try dsimp only [PT]);all_goals exact rfl) (e:L.set i (.box b te cs'.toArray)=L':=by (try dsimp only [List.set]);all_goals exact rfl) (hs:s=vs.length:=by exact rfl) (h1:vs.all (fun v=>v.oneCell')=true:=by exact rfl) (hl:Nat.ble (o+vs.length) old.length=true:=by exact rfl) :
  QA P ρ ⟨d,.store t x y,ty,pos,af,g⟩ w fun w'=>Bx w0 w' Z G L' D:=by
 have h:=Nat.le_of_ble_eq_true hl
 subst e hc
 refine Qd hL i vs hi ht hs hx hy h1 (Nat.ble_eq_true_of_le (by simpa using h)) ?_
 rw [Mm _ _ _ h]
theorem Bx.cn (h:Bx w0 w Z G L D) (i r:List Nat) (k:Bx w w' (F4 w0 Z (pick L i ++ pick L r)) (lT Lc) L1 D1) (hL:L1 ++ pick L r=L':=by (try dsimp only [pick,nth,List.cons_append,List.nil_append]);all_goals exact rfl) (hD:D1 ++ D=D':=by (try dsimp only [List.cons_append,List.nil_append]);all_goals exact rfl) (e:pick L i=Lc:=by exact rfl) (hn:nodup (i ++ r)=true:=by exact rfl):Bx w0 w' Z G L' D':=by
 subst hL hD
 exact h.cl i r hn k e
theorem Bx.fz (h:Bx w0 w Z G L D) (i j:Nat) {α:Type} [Rp α] {e:TypeId} {A:Option Addr} {c:Nat} {cs:List (List Value)} {l:List α} (hi:L[i]?=some (.own w0.heap.size A c e (Rp.sz α) cs)) (hj:D[j]?=some (.els cs l)) (hL:L.eraseIdx i=L':=by (try dsimp only [List.eraseIdx]);all_goals exact rfl) (hD:D.eraseIdx j=D':=by (try dsimp only [List.eraseIdx]);all_goals exact rfl) :
  Bx w0 w Z G L' (.l A c l :: D'):=by
 subst hL hD
 exact h.U7 i j hi hj
theorem Bx.rb (h:Bx w0 w Z G L D) (i:Nat) {base:Nat} {A:Option Addr} {c sz:Nat} {e:TypeId} {cs:List (List Value)} (base':Nat) (hi:L[i]?=some (.own base A c e sz cs)) (hb:base'≤base) (hL:L.set i (.own base' A c e sz cs)=L':=by (try dsimp only [List.set]);all_goals exact rfl):Bx w0 w Z G L' D:=by
 subst hL
 exact h.VS i base' hi hb
theorem Mj {t:TypeId} {x:Operand} {T:TypeDesc} {z:Value} {s by_:Nat} {α:Type} [Rp α] {F:Nat→Prop} {a:Option Addr} {c:Nat} {l:List α} {k:Nat} {y:α} (cs:List Value) (hu:P.underlying t=some T) (hi:TI P t z s by_)
  (hx:ρ x=.pointer (some ⟨uB a,xk a+k * Rp.sz α,none⟩)) (h:ll F w a c l) (hy:l[k]?=some y) (hD:Mi T=true:=by exact rfl) (hs:s=cs.length:=by exact rfl) (hr:∀ ds,Rp.Bo F w ds y→ds=cs:=by exact fun _ h=>h):Yl P ρ (.load t x) d ty pos af g w (.agg cs.toArray):=oL cs hu hD hi hs hx (vo h hy hr)
theorem mE {t te:TypeId} {x:Operand} {T:TypeDesc} {z:Value} {s by_ b:Nat} {old:Array Value} (cs:List Value) (hu:P.underlying t=some T) (hi:TI P t z s by_)
  (hx:ρ x=.pointer (some ⟨b,0,none⟩)) (h:x9 w b te old) (hD:Mi T=true:=by exact rfl) (hs:s=cs.length:=by exact rfl) (hr:(old.toList.drop 0).take cs.length=cs:=by exact rfl):Yl P ρ (.load t x) d ty pos af g w (.agg cs.toArray):=oL cs hu hD hi hs hx (Cells.part h.cells (o2:=0) hr)
end
end Go.Fw
