/- Short words for the printed walks. -/
import Derived.Test.YtfglbdkfnphjgaaLt
import Derived.Test.YtfglbdkfnphjgaaZ3
import Derived.Recover
set_option linter.unusedVariables false
namespace Go.Proofs.Ytfglbdkfnphjgaa
open Go.RowKit Go.Fw
noncomputable section
abbrev Z {α : Type} (a : Option Addr) (l : List α) (c : Nat) : Value := .slice a l.length c
abbrev V (n : Int) : Value := Vi n
abbrev T (n : ByteArray) : Value := Vt n
abbrev sz (α : Type) [Rp α] : Nat := Rp.sz α
abbrev O (e : Nat) (a : Option Addr) (c : Nat) (t : TypeId) (α : Type) [Rp α] (q : List (List Value)) : It := .own e a c t (Rp.sz α) q
theorem ca {α : Type} {a : α} {l m : List α} : a :: l ++ m = a :: (l ++ m) := rfl
theorem na {α : Type} {l : List α} : [] ++ l = l := rfl
theorem cb {a b : Bool} (h : a = b) : Value.bool a = .bool b := congrArg Value.bool h
theorem s : type_of% @kU := @kU
theorem q : type_of% @Jb := @Jb
theorem g : type_of% @zW := @zW
theorem n : type_of% @LZ := @LZ
theorem y : type_of% @trivial := @trivial
theorem mp : type_of% @vP := @vP
theorem mi : type_of% @Mg := @Mg
theorem xn : type_of% @Uz := @Uz
theorem xi : type_of% @Pg := @Pg
theorem wk : type_of% @EU := @EU
theorem sc : type_of% @Dm := @Dm
theorem ec : type_of% @ql := @ql
theorem iv : type_of% @jS := @jS
theorem tb : type_of% @Ry := @Ry
theorem nu : type_of% @mI := @mI
theorem oc : type_of% @O0 := @O0
theorem oo : type_of% @WS := @WS
theorem os : type_of% @Yn := @Yn
theorem om : type_of% @kN.nil := @kN.nil
abbrev BA := ByteArray
abbrev Gv := jA
abbrev Gi := kK
abbrev Ge := jB
abbrev Gs := jD
abbrev Gr := kV
abbrev Gn := lI
abbrev Gm := lD
abbrev Gt := fV
theorem EC : type_of% @Try.underlying3 := @Try.underlying3
theorem Yw : type_of% @Try.underlying5 := @Try.underlying5
theorem uq : type_of% @Try.underlying9 := @Try.underlying9
theorem ug : type_of% @Try.underlying22 := @Try.underlying22
theorem G8 : type_of% @Try.underlying23 := @Try.underlying23
theorem Cq : type_of% @Try.underlying24 := @Try.underlying24
theorem Cy : type_of% @Try.underlying26 := @Try.underlying26
theorem EJ : type_of% @Try.underlying27 := @Try.underlying27
theorem E5 : type_of% @Try.underlying28 := @Try.underlying28
theorem Ep : type_of% @Try.underlying30 := @Try.underlying30
theorem Gz : type_of% @Try.underlying36 := @Try.underlying36
theorem VU : type_of% @Try.underlying39 := @Try.underlying39
theorem BJ : type_of% @Try.underlying48 := @Try.underlying48
theorem YM : type_of% @Try.underlying50 := @Try.underlying50
theorem KE : type_of% @Try.underlying51 := @Try.underlying51
theorem UE : type_of% @Try.underlying53 := @Try.underlying53
theorem X7 : type_of% @Try.underlying57 := @Try.underlying57
theorem RB : type_of% @Try.underlying59 := @Try.underlying59
theorem Bj : type_of% @Try.underlying60 := @Try.underlying60
theorem kQ : type_of% @Try.underlying70 := @Try.underlying70
theorem Ak : type_of% @Try.underlying80 := @Try.underlying80
theorem Ez : type_of% @Try.underlying82 := @Try.underlying82
theorem Cr : type_of% @Try.underlying97 := @Try.underlying97
theorem tY : type_of% @Try.underlying109 := @Try.underlying109
theorem lW : type_of% @Try.underlying111 := @Try.underlying111
theorem Nb : type_of% @Try.underlying127 := @Try.underlying127
theorem mV : type_of% @Try.underlying138 := @Try.underlying138
theorem BU : type_of% @Try.underlying143 := @Try.underlying143
theorem NC : type_of% @Try.underlying187 := @Try.underlying187
section
variable {ρ : Operand → Value} {d : Option Nat} {ty : TypeId} {pos : String} {af : Array Edge} {g : Option (Nat × Bool)} {w : World} {x : Operand} {b o : Nat}
theorem CX (h : ρ x = .pointer (some ⟨b, o, none⟩)) : Yl Try.prog ρ (.fieldAddr 26 x 0) d ty pos af g w (.pointer (some ⟨b, o, none⟩)) := wD Try.underlying26 rfl rfl WL (by decide) h
theorem Af (h : ρ x = .pointer (some ⟨b, o, none⟩)) : Yl Try.prog ρ (.fieldAddr 26 x 1) d ty pos af g w (.pointer (some ⟨b, o + 1, none⟩)) := nD (k := 1) Try.underlying26 rfl rfl Ve (by decide) h
theorem FN (h : ρ x = .pointer (some ⟨b, o, none⟩)) : Yl Try.prog ρ (.fieldAddr 30 x 0) d ty pos af g w (.pointer (some ⟨b, o, none⟩)) := wD Try.underlying30 rfl rfl tX (by decide) h
theorem AX (h : ρ x = .pointer (some ⟨b, o, none⟩)) : Yl Try.prog ρ (.fieldAddr 30 x 1) d ty pos af g w (.pointer (some ⟨b, o + 2, none⟩)) := nD (k := 2) Try.underlying30 rfl rfl X3 (by decide) h
theorem AV (h : ρ x = .pointer (some ⟨b, o, none⟩)) : Yl Try.prog ρ (.fieldAddr 30 x 2) d ty pos af g w (.pointer (some ⟨b, o + 3, none⟩)) := nD (k := 3) Try.underlying30 rfl rfl Yo (by decide) h
theorem Qf (h : ρ x = .pointer (some ⟨b, o, none⟩)) : Yl Try.prog ρ (.fieldAddr 39 x 0) d ty pos af g w (.pointer (some ⟨b, o, none⟩)) := wD Try.underlying39 rfl rfl Mi (by decide) h
theorem TT (h : ρ x = .pointer (some ⟨b, o, none⟩)) : Yl Try.prog ρ (.fieldAddr 39 x 1) d ty pos af g w (.pointer (some ⟨b, o + 1, none⟩)) := nD (k := 1) Try.underlying39 rfl rfl OM (by decide) h
theorem O7 (h : ρ x = .pointer (some ⟨b, o, none⟩)) : Yl Try.prog ρ (.fieldAddr 39 x 2) d ty pos af g w (.pointer (some ⟨b, o + 2, none⟩)) := nD (k := 2) Try.underlying39 rfl rfl nO (by decide) h
theorem Xl (h : ρ x = .pointer (some ⟨b, o, none⟩)) : Yl Try.prog ρ (.fieldAddr 39 x 3) d ty pos af g w (.pointer (some ⟨b, o + 3, none⟩)) := nD (k := 3) Try.underlying39 rfl rfl AZ (by decide) h
theorem TD (h : ρ x = .pointer (some ⟨b, o, none⟩)) : Yl Try.prog ρ (.fieldAddr 53 x 0) d ty pos af g w (.pointer (some ⟨b, o, none⟩)) := wD Try.underlying53 rfl rfl nO (by decide) h
theorem Le (h : ρ x = .pointer (some ⟨b, o, none⟩)) : Yl Try.prog ρ (.fieldAddr 53 x 1) d ty pos af g w (.pointer (some ⟨b, o + 1, none⟩)) := nD (k := 1) Try.underlying53 rfl rfl nO (by decide) h
theorem SN (h : ρ x = .pointer (some ⟨b, o, none⟩)) : Yl Try.prog ρ (.fieldAddr 57 x 0) d ty pos af g w (.pointer (some ⟨b, o, none⟩)) := wD Try.underlying57 rfl rfl nO (by decide) h
theorem Qg (h : ρ x = .pointer (some ⟨b, o, none⟩)) : Yl Try.prog ρ (.fieldAddr 57 x 2) d ty pos af g w (.pointer (some ⟨b, o + 2, none⟩)) := nD (k := 2) Try.underlying57 rfl rfl AZ (by decide) h
theorem Ei (h : ρ x = .pointer (some ⟨b, o, none⟩)) : Yl Try.prog ρ (.fieldAddr 50 x 0) d ty pos af g w (.pointer (some ⟨b, o, none⟩)) := wD Try.underlying50 rfl rfl UR (by decide) h
theorem NS (h : ρ x = .pointer (some ⟨b, o, none⟩)) : Yl Try.prog ρ (.fieldAddr 53 x 2) d ty pos af g w (.pointer (some ⟨b, o + 2, none⟩)) := nD (k := 2) Try.underlying53 rfl rfl Yi (by decide) h
theorem Ph (h : ρ x = .pointer (some ⟨b, o, none⟩)) : Yl Try.prog ρ (.fieldAddr 65 x 1) d ty pos af g w (.pointer (some ⟨b, o + 1, none⟩)) := nD (k := 1) Try.underlying65 rfl rfl nO (by decide) h
theorem S9 (h : ρ x = .pointer (some ⟨b, o, none⟩)) : Yl Try.prog ρ (.fieldAddr 59 x 0) d ty pos af g w (.pointer (some ⟨b, o, none⟩)) := wD Try.underlying59 rfl rfl oQ (by decide) h
theorem Qw (h : ρ x = .pointer (some ⟨b, o, none⟩)) : Yl Try.prog ρ (.fieldAddr 59 x 1) d ty pos af g w (.pointer (some ⟨b, o + 1, none⟩)) := nD (k := 1) Try.underlying59 rfl rfl nO (by decide) h
theorem SK (h : ρ x = .pointer (some ⟨b, o, none⟩)) : Yl Try.prog ρ (.fieldAddr 59 x 2) d ty pos af g w (.pointer (some ⟨b, o + 2, none⟩)) := nD (k := 2) Try.underlying59 rfl rfl nO (by decide) h
theorem SS (h : ρ x = .pointer (some ⟨b, o, none⟩)) : Yl Try.prog ρ (.fieldAddr 59 x 3) d ty pos af g w (.pointer (some ⟨b, o + 3, none⟩)) := nD (k := 3) Try.underlying59 rfl rfl nO (by decide) h
theorem Wm (h : ρ x = .pointer (some ⟨b, o, none⟩)) : Yl Try.prog ρ (.fieldAddr 59 x 5) d ty pos af g w (.pointer (some ⟨b, o + 5, none⟩)) := nD (k := 5) Try.underlying59 rfl rfl nO (by decide) h
theorem Nq (h : ρ x = .pointer (some ⟨b, o, none⟩)) : Yl Try.prog ρ (.fieldAddr 59 x 6) d ty pos af g w (.pointer (some ⟨b, o + 6, none⟩)) := nD (k := 6) Try.underlying59 rfl rfl nO (by decide) h
theorem JY (h : ρ x = .pointer (some ⟨b, o, none⟩)) : Yl Try.prog ρ (.fieldAddr 82 x 0) d ty pos af g w (.pointer (some ⟨b, o, none⟩)) := wD Try.underlying82 rfl rfl oQ (by decide) h
theorem Ng (h : ρ x = .pointer (some ⟨b, o, none⟩)) : Yl Try.prog ρ (.fieldAddr 82 x 1) d ty pos af g w (.pointer (some ⟨b, o + 1, none⟩)) := nD (k := 1) Try.underlying82 rfl rfl nO (by decide) h
theorem EL (h : ρ x = .pointer (some ⟨b, o, none⟩)) : Yl Try.prog ρ (.fieldAddr 82 x 2) d ty pos af g w (.pointer (some ⟨b, o + 2, none⟩)) := nD (k := 2) Try.underlying82 rfl rfl oH (by decide) h
theorem Du (h : ρ x = .pointer (some ⟨b, o, none⟩)) : Yl Try.prog ρ (.fieldAddr 82 x 3) d ty pos af g w (.pointer (some ⟨b, o + 3, none⟩)) := nD (k := 3) Try.underlying82 rfl rfl zX (by decide) h
theorem yV (h : ρ x = .pointer (some ⟨b, o, none⟩)) : Yl Try.prog ρ (.fieldAddr 102 x 0) d ty pos af g w (.pointer (some ⟨b, o, none⟩)) := wD Try.underlying102 rfl rfl Zf (by decide) h
theorem l7 (h : ρ x = .pointer (some ⟨b, o, none⟩)) : Yl Try.prog ρ (.fieldAddr 102 x 1) d ty pos af g w (.pointer (some ⟨b, o + 1, none⟩)) := nD (k := 1) Try.underlying102 rfl rfl nO (by decide) h
theorem PW (h : ρ x = .pointer (some ⟨b, o, none⟩)) : Yl Try.prog ρ (.fieldAddr 102 x 2) d ty pos af g w (.pointer (some ⟨b, o + 2, none⟩)) := nD (k := 2) Try.underlying102 rfl rfl nO (by decide) h
theorem qY (h : ρ x = .pointer (some ⟨b, o, none⟩)) : Yl Try.prog ρ (.fieldAddr 102 x 3) d ty pos af g w (.pointer (some ⟨b, o + 3, none⟩)) := nD (k := 3) Try.underlying102 rfl rfl Mi (by decide) h
theorem xP (h : ρ x = .pointer (some ⟨b, o, none⟩)) : Yl Try.prog ρ (.fieldAddr 111 x 0) d ty pos af g w (.pointer (some ⟨b, o, none⟩)) := wD Try.underlying111 rfl rfl nO (by decide) h
theorem Aa (h : ρ x = .pointer (some ⟨b, o, none⟩)) : Yl Try.prog ρ (.fieldAddr 111 x 1) d ty pos af g w (.pointer (some ⟨b, o + 1, none⟩)) := nD (k := 1) Try.underlying111 rfl rfl nO (by decide) h
theorem MR (h : ρ x = .pointer (some ⟨b, o, none⟩)) : Yl Try.prog ρ (.fieldAddr 111 x 2) d ty pos af g w (.pointer (some ⟨b, o + 2, none⟩)) := nD (k := 2) Try.underlying111 rfl rfl nO (by decide) h
theorem zF (h : ρ x = .pointer (some ⟨b, o, none⟩)) : Yl Try.prog ρ (.fieldAddr 111 x 3) d ty pos af g w (.pointer (some ⟨b, o + 3, none⟩)) := nD (k := 3) Try.underlying111 rfl rfl oQ (by decide) h
theorem F9 (h : ρ x = .pointer (some ⟨b, o, none⟩)) : Yl Try.prog ρ (.fieldAddr 111 x 4) d ty pos af g w (.pointer (some ⟨b, o + 4, none⟩)) := nD (k := 4) Try.underlying111 rfl rfl oQ (by decide) h
theorem BD (h : ρ x = .pointer (some ⟨b, o, none⟩)) : Yl Try.prog ρ (.fieldAddr 111 x 5) d ty pos af g w (.pointer (some ⟨b, o + 5, none⟩)) := nD (k := 5) Try.underlying111 rfl rfl nO (by decide) h
theorem Mx (h : ρ x = .pointer (some ⟨b, o, none⟩)) : Yl Try.prog ρ (.fieldAddr 111 x 6) d ty pos af g w (.pointer (some ⟨b, o + 6, none⟩)) := nD (k := 6) Try.underlying111 rfl rfl nO (by decide) h
theorem xK (h : ρ x = .pointer (some ⟨b, o, none⟩)) : Yl Try.prog ρ (.fieldAddr 111 x 7) d ty pos af g w (.pointer (some ⟨b, o + 7, none⟩)) := nD (k := 7) Try.underlying111 rfl rfl uw (by decide) h
theorem Cv (h : ρ x = .pointer (some ⟨b, o, none⟩)) : Yl Try.prog ρ (.fieldAddr 111 x 8) d ty pos af g w (.pointer (some ⟨b, o + 8, none⟩)) := nD (k := 8) Try.underlying111 rfl rfl oQ (by decide) h
theorem L6 (h : ρ x = .pointer (some ⟨b, o, none⟩)) : Yl Try.prog ρ (.fieldAddr 111 x 9) d ty pos af g w (.pointer (some ⟨b, o + 9, none⟩)) := nD (k := 9) Try.underlying111 rfl rfl nO (by decide) h
theorem uT (h : ρ x = .pointer (some ⟨b, o, none⟩)) : Yl Try.prog ρ (.fieldAddr 111 x 10) d ty pos af g w (.pointer (some ⟨b, o + 10, none⟩)) := nD (k := 10) Try.underlying111 rfl rfl uw (by decide) h
theorem wN (h : ρ x = .pointer (some ⟨b, o, none⟩)) : Yl Try.prog ρ (.fieldAddr 111 x 11) d ty pos af g w (.pointer (some ⟨b, o + 11, none⟩)) := nD (k := 11) Try.underlying111 rfl rfl zX (by decide) h
theorem wG (h : ρ x = .pointer (some ⟨b, o, none⟩)) : Yl Try.prog ρ (.fieldAddr 111 x 12) d ty pos af g w (.pointer (some ⟨b, o + 12, none⟩)) := nD (k := 12) Try.underlying111 rfl rfl zX (by decide) h
theorem pW (h : ρ x = .pointer (some ⟨b, o, none⟩)) : Yl Try.prog ρ (.fieldAddr 115 x 0) d ty pos af g w (.pointer (some ⟨b, o, none⟩)) := wD Try.underlying115 rfl rfl xD (by decide) h
theorem Ab (h : ρ x = .pointer (some ⟨b, o, none⟩)) : Yl Try.prog ρ (.fieldAddr 115 x 1) d ty pos af g w (.pointer (some ⟨b, o + 4, none⟩)) := nD (k := 4) Try.underlying115 rfl rfl nO (by decide) h
theorem zY (h : ρ x = .pointer (some ⟨b, o, none⟩)) : Yl Try.prog ρ (.fieldAddr 115 x 2) d ty pos af g w (.pointer (some ⟨b, o + 5, none⟩)) := nD (k := 5) Try.underlying115 rfl rfl AZ (by decide) h
theorem Pz (h : ρ x = .pointer (some ⟨b, o, none⟩)) : Yl Try.prog ρ (.fieldAddr 115 x 3) d ty pos af g w (.pointer (some ⟨b, o + 6, none⟩)) := nD (k := 6) Try.underlying115 rfl rfl nO (by decide) h
theorem yY (h : ρ x = .pointer (some ⟨b, o, none⟩)) : Yl Try.prog ρ (.fieldAddr 115 x 4) d ty pos af g w (.pointer (some ⟨b, o + 7, none⟩)) := nD (k := 7) Try.underlying115 rfl rfl Mi (by decide) h
theorem Iz (h : ρ x = .pointer (some ⟨b, o, none⟩)) : Yl Try.prog ρ (.fieldAddr 127 x 0) d ty pos af g w (.pointer (some ⟨b, o, none⟩)) := wD Try.underlying127 rfl rfl oQ (by decide) h
theorem Bp (h : ρ x = .pointer (some ⟨b, o, none⟩)) : Yl Try.prog ρ (.fieldAddr 127 x 1) d ty pos af g w (.pointer (some ⟨b, o + 1, none⟩)) := nD (k := 1) Try.underlying127 rfl rfl oH (by decide) h
theorem MQ (h : ρ x = .pointer (some ⟨b, o, none⟩)) : Yl Try.prog ρ (.fieldAddr 132 x 0) d ty pos af g w (.pointer (some ⟨b, o, none⟩)) := wD Try.underlying132 rfl rfl AZ (by decide) h
theorem EK (h : ρ x = .pointer (some ⟨b, o, none⟩)) : Yl Try.prog ρ (.fieldAddr 132 x 1) d ty pos af g w (.pointer (some ⟨b, o + 1, none⟩)) := nD (k := 1) Try.underlying132 rfl rfl nO (by decide) h
theorem oO (h : ρ x = .pointer (some ⟨b, o, none⟩)) : Yl Try.prog ρ (.fieldAddr 135 x 0) d ty pos af g w (.pointer (some ⟨b, o, none⟩)) := wD Try.underlying135 rfl rfl WH (by decide) h
theorem VP (h : ρ x = .pointer (some ⟨b, o, none⟩)) : Yl Try.prog ρ (.fieldAddr 135 x 1) d ty pos af g w (.pointer (some ⟨b, o + 1, none⟩)) := nD (k := 1) Try.underlying135 rfl rfl nO (by decide) h
theorem Mh (h : ρ x = .pointer (some ⟨b, o, none⟩)) : Yl Try.prog ρ (.fieldAddr 135 x 2) d ty pos af g w (.pointer (some ⟨b, o + 2, none⟩)) := nD (k := 2) Try.underlying135 rfl rfl nO (by decide) h
theorem Vv (h : ρ x = .pointer (some ⟨b, o, none⟩)) : Yl Try.prog ρ (.fieldAddr 135 x 3) d ty pos af g w (.pointer (some ⟨b, o + 3, none⟩)) := nD (k := 3) Try.underlying135 rfl rfl AZ (by decide) h
theorem mQ (h : ρ x = .pointer (some ⟨b, o, none⟩)) : Yl Try.prog ρ (.fieldAddr 135 x 4) d ty pos af g w (.pointer (some ⟨b, o + 4, none⟩)) := nD (k := 4) Try.underlying135 rfl rfl oH (by decide) h
theorem qh (h : ρ x = .pointer (some ⟨b, o, none⟩)) : Yl Try.prog ρ (.fieldAddr 135 x 5) d ty pos af g w (.pointer (some ⟨b, o + 5, none⟩)) := nD (k := 5) Try.underlying135 rfl rfl oH (by decide) h
theorem qQ (h : ρ x = .pointer (some ⟨b, o, none⟩)) : Yl Try.prog ρ (.fieldAddr 135 x 6) d ty pos af g w (.pointer (some ⟨b, o + 6, none⟩)) := nD (k := 6) Try.underlying135 rfl rfl oH (by decide) h
theorem D7 (h : ρ x = .pointer (some ⟨b, o, none⟩)) : Yl Try.prog ρ (.fieldAddr 135 x 7) d ty pos af g w (.pointer (some ⟨b, o + 7, none⟩)) := nD (k := 7) Try.underlying135 rfl rfl nO (by decide) h
theorem Mf (h : ρ x = .pointer (some ⟨b, o, none⟩)) : Yl Try.prog ρ (.fieldAddr 135 x 8) d ty pos af g w (.pointer (some ⟨b, o + 8, none⟩)) := nD (k := 8) Try.underlying135 rfl rfl nO (by decide) h
theorem Ac (h : ρ x = .pointer (some ⟨b, o, none⟩)) : Yl Try.prog ρ (.fieldAddr 138 x 0) d ty pos af g w (.pointer (some ⟨b, o, none⟩)) := wD Try.underlying138 rfl rfl nO (by decide) h
theorem IB (h : ρ x = .pointer (some ⟨b, o, none⟩)) : Yl Try.prog ρ (.fieldAddr 138 x 1) d ty pos af g w (.pointer (some ⟨b, o + 1, none⟩)) := nD (k := 1) Try.underlying138 rfl rfl nO (by decide) h
theorem VY (h : ρ x = .pointer (some ⟨b, o, none⟩)) : Yl Try.prog ρ (.fieldAddr 138 x 2) d ty pos af g w (.pointer (some ⟨b, o + 2, none⟩)) := nD (k := 2) Try.underlying138 rfl rfl nO (by decide) h
theorem Iu (h : ρ x = .pointer (some ⟨b, o, none⟩)) : Yl Try.prog ρ (.fieldAddr 138 x 3) d ty pos af g w (.pointer (some ⟨b, o + 3, none⟩)) := nD (k := 3) Try.underlying138 rfl rfl oQ (by decide) h
theorem Qb (h : ρ x = .pointer (some ⟨b, o, none⟩)) : Yl Try.prog ρ (.fieldAddr 138 x 4) d ty pos af g w (.pointer (some ⟨b, o + 4, none⟩)) := nD (k := 4) Try.underlying138 rfl rfl oQ (by decide) h
theorem Ar (h : ρ x = .pointer (some ⟨b, o, none⟩)) : Yl Try.prog ρ (.fieldAddr 138 x 5) d ty pos af g w (.pointer (some ⟨b, o + 5, none⟩)) := nD (k := 5) Try.underlying138 rfl rfl uw (by decide) h
theorem L8 (h : ρ x = .pointer (some ⟨b, o, none⟩)) : Yl Try.prog ρ (.fieldAddr 143 x 0) d ty pos af g w (.pointer (some ⟨b, o, none⟩)) := wD Try.underlying143 rfl rfl nO (by decide) h
theorem Jy (h : ρ x = .pointer (some ⟨b, o, none⟩)) : Yl Try.prog ρ (.fieldAddr 143 x 1) d ty pos af g w (.pointer (some ⟨b, o + 1, none⟩)) := nD (k := 1) Try.underlying143 rfl rfl nO (by decide) h
theorem JR (h : ρ x = .pointer (some ⟨b, o, none⟩)) : Yl Try.prog ρ (.fieldAddr 143 x 2) d ty pos af g w (.pointer (some ⟨b, o + 2, none⟩)) := nD (k := 2) Try.underlying143 rfl rfl oQ (by decide) h
theorem PO (h : ρ x = .pointer (some ⟨b, o, none⟩)) : Yl Try.prog ρ (.fieldAddr 143 x 3) d ty pos af g w (.pointer (some ⟨b, o + 3, none⟩)) := nD (k := 3) Try.underlying143 rfl rfl nO (by decide) h
theorem l3 {t : TypeId} {cs : Array Value} {v : Value} (h : ρ x = .pointer (some ⟨b, o, none⟩)) (hb : nA w b t cs) (hi : cs[o]? = some v) : Yl Try.prog ρ (.load 3 x) d ty pos af g w v := jT Try.underlying3 rfl h (hb.cell hi)
theorem l4 {t : TypeId} {cs : Array Value} {v : Value} (h : ρ x = .pointer (some ⟨b, o, none⟩)) (hb : nA w b t cs) (hi : cs[o]? = some v) : Yl Try.prog ρ (.load 4 x) d ty pos af g w v := jT Try.underlying4 rfl h (hb.cell hi)
theorem l9 {t : TypeId} {cs : Array Value} {v : Value} (h : ρ x = .pointer (some ⟨b, o, none⟩)) (hb : nA w b t cs) (hi : cs[o]? = some v) : Yl Try.prog ρ (.load 9 x) d ty pos af g w v := jT Try.underlying9 rfl h (hb.cell hi)
theorem OP {t : TypeId} {cs : Array Value} {v : Value} (h : ρ x = .pointer (some ⟨b, o, none⟩)) (hb : nA w b t cs) (hi : cs[o]? = some v) : Yl Try.prog ρ (.load 22 x) d ty pos af g w v := jT Try.underlying22 rfl h (hb.cell hi)
theorem Tj {t : TypeId} {cs : Array Value} {v : Value} (h : ρ x = .pointer (some ⟨b, o, none⟩)) (hb : nA w b t cs) (hi : cs[o]? = some v) : Yl Try.prog ρ (.load 23 x) d ty pos af g w v := jT Try.underlying23 rfl h (hb.cell hi)
theorem OJ {t : TypeId} {cs : Array Value} {v : Value} (h : ρ x = .pointer (some ⟨b, o, none⟩)) (hb : nA w b t cs) (hi : cs[o]? = some v) : Yl Try.prog ρ (.load 24 x) d ty pos af g w v := jT Try.underlying24 rfl h (hb.cell hi)
theorem PD {t : TypeId} {cs : Array Value} {v : Value} (h : ρ x = .pointer (some ⟨b, o, none⟩)) (hb : nA w b t cs) (hi : cs[o]? = some v) : Yl Try.prog ρ (.load 27 x) d ty pos af g w v := jT Try.underlying27 rfl h (hb.cell hi)
theorem Qn {t : TypeId} {cs : Array Value} {v : Value} (h : ρ x = .pointer (some ⟨b, o, none⟩)) (hb : nA w b t cs) (hi : cs[o]? = some v) : Yl Try.prog ρ (.load 28 x) d ty pos af g w v := jT Try.underlying28 rfl h (hb.cell hi)
theorem BM {t : TypeId} {cs : Array Value} {v : Value} (h : ρ x = .pointer (some ⟨b, o, none⟩)) (hb : nA w b t cs) (hi : cs[o]? = some v) : Yl Try.prog ρ (.load 37 x) d ty pos af g w v := jT Try.underlying37 rfl h (hb.cell hi)
theorem ZW {t : TypeId} {cs : Array Value} {v : Value} (h : ρ x = .pointer (some ⟨b, o, none⟩)) (hb : nA w b t cs) (hi : cs[o]? = some v) : Yl Try.prog ρ (.load 51 x) d ty pos af g w v := jT Try.underlying51 rfl h (hb.cell hi)
theorem Z7 {t : TypeId} {cs : Array Value} {v : Value} (h : ρ x = .pointer (some ⟨b, o, none⟩)) (hb : nA w b t cs) (hi : cs[o]? = some v) : Yl Try.prog ρ (.load 60 x) d ty pos af g w v := jT Try.underlying60 rfl h (hb.cell hi)
theorem zM {t : TypeId} {cs : Array Value} {v : Value} (h : ρ x = .pointer (some ⟨b, o, none⟩)) (hb : nA w b t cs) (hi : cs[o]? = some v) : Yl Try.prog ρ (.load 70 x) d ty pos af g w v := jT Try.underlying70 rfl h (hb.cell hi)
theorem Ol {t : TypeId} {cs : Array Value} {v : Value} (h : ρ x = .pointer (some ⟨b, o, none⟩)) (hb : nA w b t cs) (hi : cs[o]? = some v) : Yl Try.prog ρ (.load 80 x) d ty pos af g w v := jT Try.underlying80 rfl h (hb.cell hi)
theorem OL {t : TypeId} {cs : Array Value} {v : Value} (h : ρ x = .pointer (some ⟨b, o, none⟩)) (hb : nA w b t cs) (hi : cs[o]? = some v) : Yl Try.prog ρ (.load 97 x) d ty pos af g w v := jT Try.underlying97 rfl h (hb.cell hi)
theorem AY {t : TypeId} {cs : Array Value} {v : Value} (h : ρ x = .pointer (some ⟨b, o, none⟩)) (hb : nA w b t cs) (hi : cs[o]? = some v) : Yl Try.prog ρ (.load 109 x) d ty pos af g w v := jT Try.underlying109 rfl h (hb.cell hi)
theorem xG {t : TypeId} {cs : Array Value} {v : Value} (h : ρ x = .pointer (some ⟨b, o, none⟩)) (hb : nA w b t cs) (hi : cs[o]? = some v) : Yl Try.prog ρ (.load 130 x) d ty pos af g w v := jT Try.underlying130 rfl h (hb.cell hi)
end
section
variable {P : Program} {N:Fz} {ops : Array Oper} {f : Fr} {w w0 : World} {n : Nat} {K:KK} {Lb : Array Bool} {T : List Nat} {Y G : Nat → Prop} {L : List It} {D : List Da} {S1 S : World → Prop}
theorem pF (i : Nat) {oi : Oper} {v : Value} (hi : ops[i]? = some oi) (hy : ∀ {w : World}, (execOp (ev f) oi).run P w = .ok (.value v) w) (hs : S1 w)
 (k : rW P N ops S1 (fun _ => True) T K n (Lb.setIfInBounds i true) (ny f oi.dst v) w) (hw : sV ops f oi.guard = true := by exact rfl) (hc : may ops T Lb i = true := by kernel_rfl) : rW P N ops S1 (fun _ => True) T K (n + 1) Lb f w := tP i hi (fun _ => hy) (sF hs) k hw hc
theorem pL (i : Nat) {oi : Oper} {v : Value} (hi : ops[i]? = some oi) (hy : ∀ {w : World}, (execOp (ev f) oi).run P w = .ok (.value v) w) (hs : S1 w) (hu : S w)
 (k : rW P N ops S1 S T K n (Lb.setIfInBounds i true) (ny f oi.dst v) w) (hw : sV ops f oi.guard = true := by exact rfl) (hc : may ops T Lb i = true := by kernel_rfl) : rW P N ops S1 S T K (n + 1) Lb f w := tP i hi (fun _ => hy) (mI hs hu) k hw hc
theorem uF (i : Nat) {oi : Oper} {v : Value} (hi : ops[i]? = some oi) (hy : ∀ {w : World}, S1 w → (execOp (ev f) oi).run P w = .ok (.value v) w) (hs : S1 w)
 (k : rW P N ops S1 (fun _ => True) T K n (Lb.setIfInBounds i true) (ny f oi.dst v) w) (hw : sV ops f oi.guard = true := by exact rfl) (hc : may ops T Lb i = true := by kernel_rfl) : rW P N ops S1 (fun _ => True) T K (n + 1) Lb f w := tU i hi (fun _ => hy) (sF hs) k hw hc
theorem hO (i : Nat) (h : Av P N ops S1 S T K n Lb f w i) (hr : Region.ready .any ops Lb = [i] := by kernel_rfl) : rW P N ops S1 S T K (n + 1) Lb f w := X6 i hr h
theorem hD (h : K.n f w) (hr : Region.ready .any ops Lb = [] := by kernel_rfl) : rW P N ops S1 S T K n Lb f w := Vd hr h
theorem sy (t : Nat) (h1 : S1 w) (h : (T.contains t && Lb.getD t false) = true := by kernel_rfl) : DK S1 T S Lb w := Qy t h1 h
theorem cf {g : FuncId} {fn : Func} {c : Code} {args : Array Value} {R : Value → World → Prop} (hf : P.funcs[g]? = some fn) (hb : fn.body = some c)
 (h : WP P (fn.ntmps,[]) c ⟨Reads P fn R, fun _ _ _ => False, Reads P fn R, fun _ _ _ => False⟩ (xO args) w) (hs : Nat.ble args.size fn.ntmps = true := by exact rfl) (hok : CK (fn.ntmps,[]) c = true := by kernel_rfl) : Calls P g args w (qW R) := Qx hf hb (Nat.le_of_ble_eq_true hs) hok h
end
end
end Go.Proofs.Ytfglbdkfnphjgaa
namespace Go.Fw
theorem Bx.ad {w0 w : World} {Y G : Nat → Prop} {L : List It} {D : List Da} (h : Bx w0 w Y G L D) (l m : List Nat) (hn : nodup l = true := by exact rfl) : Bx w0 w Y G (pick L l) (pick D m) := (h.arr l hn).dp m
theorem Bx.le {w0 w : World} {Y G : Nat → Prop} {L : List It} {D : List Da} {e : Nat} (h : Bx w0 w Y G L D) (k : e ≤ w0.heap.size) : e ≤ w.heap.size := Nat.le_trans k h.rD.size
theorem lZ {α β γ:Type} {o:Option (α × β)} {f:α→β→Option γ} {X:γ} (h:(o.bind fun x=>jy x f)=some X):∃ a b,o=some (a,b)∧f a b=some X:=by
 obtain ⟨⟨a,b⟩,h1,h2⟩:=bs h
 exact ⟨a,b,h1,h2⟩
theorem vD {α β γ δ:Type} {o:Option (α × β × γ)} {f:α→β→γ→Option δ} {X:δ} (h:(o.bind fun x=>jy x fun a y=>jy y (f a))=some X):∃ a b c,o=some (a,b,c)∧f a b c=some X:=by
 obtain ⟨⟨a,b,c⟩,h1,h2⟩:=bs h
 exact ⟨a,b,c,h1,h2⟩
theorem Xn {α β γ δ ε:Type} {o:Option (α × β × γ × δ)} {f:α→β→γ→δ→Option ε} {X:ε} (h:(o.bind fun x=>jy x fun a y=>jy y fun b z=>jy z (f a b))=some X):∃ a b c d,o=some (a,b,c,d)∧f a b c d=some X:=by
 obtain ⟨⟨a,b,c,d⟩,h1,h2⟩:=bs h
 exact ⟨a,b,c,d,h1,h2⟩
theorem Bh {α β γ δ:Type} {a:α} {b:β} {c:γ} {f:α→β→γ→δ} {X:δ} (h:jy (a,b,c) (fun x y=>jy y (f x))=X):f a b c=X:=h
theorem mG {α β γ ε δ:Type} {a:α} {b:β} {c:γ} {d:ε} {f:α→β→γ→ε→δ} {X:δ} (h:jy (a,b,c,d) (fun x y=>jy y fun u v=>jy v (f x u))=X):f a b c d=X:=h
section
variable {P:Program} {N:Fz} {ops:Array Oper} {K:KK} {rest:List Oper} {f:Fr} {w w0:World} {d:Option Nat} {op:Op} {ty:TypeId} {pos:String} {af:Array Edge} {Z G:Nat→Prop} {L:List It} {D:List Da}
theorem tu (h:Bx w0 w Z G L D) {t:TypeId} {cs:Array Value} (e:(execOp (ev f) ⟨d,op,ty,pos,af,none⟩).run P w=.ok (.value (.pointer (some ⟨w.heap.size,0,none⟩))) (w.alloc (.cells cs t))) (k:∀ w' b,Bx w0 w' Z G (.box b t cs :: L) D→oG P N ops K rest (ny f d (.pointer (some ⟨b,0,none⟩))) w'):oG P N ops K (⟨d,op,ty,pos,af,none⟩ :: rest) f w:=nU (nM h e) (by rintro _ w' ⟨b,rfl,h⟩;exact k w' b h)
end
def spl:List Value→Nat→List Value→List Value
 | [],_,_=>[]
 | a :: l,0,[]=>a :: l
 | _ :: l,0,v :: m=>v :: spl l 0 m
 | a :: l,n+1,m=>a :: spl l n m
theorem Ma:∀ (l:List Value) (o:Nat) (m:List Value),o+m.length≤l.length→spl l o m=l.take o ++ m ++ l.drop (o+m.length)
 | [],o,m,h=>by
  have h1:m=[]:=List.length_eq_zero_iff.1 (by simp only [List.length_nil] at h;omega)
  subst h1;simp [spl]
 | a :: l,0,[],_=>by simp [spl]
 | a :: l,0,v :: m,h=>by
  have:=Ma l 0 m (by simp only [List.length_cons] at h;omega)
  simp only [spl,this];simp
 | a :: l,n+1,m,h=>by
  have:=Ma l n m (by simp only [List.length_cons] at h;omega)
  rw [spl,this,show n+1+m.length=(n+m.length)+1 by omega];simp
section
variable {P:Program} {ρ:Operand→Value} {w w' w0:World} {d:Option Nat} {ty:TypeId} {pos:String} {af:Array Edge} {g:Option (Nat × Bool)} {Z G:Nat→Prop} {L L' L1 Lc:List It} {D D' D1:List Da}
theorem nX (hL:Bx w0 w Z G L D) (i:Nat) {t te:TypeId} {x y:Operand} {z:Value} {s by_ b:Nat} {old:Array Value} (vs:List Value) (hi:L[i]?=some (.box b te old)) (ht:TI P t z s by_)
  (hx:ρ x=.pointer (some ⟨b,0,none⟩)) (hy:(ρ y).cells=vs.toArray) (e:L.set i (.box b te vs.toArray)=L':=by (try dsimp only [List.set]);all_goals exact rfl) (hs:s=vs.length:=by exact rfl) (h1:vs.all (fun v=>v.oneCell')=true:=by exact rfl) (hl:Nat.beq vs.length old.size=true:=by exact rfl) :
  Q6 P ρ ⟨d,.store t x y,ty,pos,af,g⟩ w fun w'=>Bx w0 w' Z G L' D:=by
 have h:=Nat.eq_of_beq_eq_true hl
 subst e
 refine Ry hL i vs hi ht hs hx hy h1 (Nat.ble_eq_true_of_le (by rw [Nat.zero_add,h];exact Nat.le_refl _)) ?_
 rw [Nat.zero_add,List.take_zero,List.nil_append,List.drop_eq_nil_of_le (by rw [h];simp),List.append_nil]
theorem t_n (hL:Bx w0 w Z G L D) (i:Nat) {t te:TypeId} {x y:Operand} {z:Value} {s by_ b o:Nat} {old cs':List Value} (vs:List Value) (hi:L[i]?=some (.box b te old.toArray)) (ht:TI P t z s by_)
  (hx:ρ x=.pointer (some ⟨b,o,none⟩)) (hy:(ρ y).cells=vs.toArray) (hc:spl old o vs=cs':=by (try dsimp only [spl]);all_goals exact rfl) (e:L.set i (.box b te cs'.toArray)=L':=by (try dsimp only [List.set]);all_goals exact rfl) (hs:s=vs.length:=by exact rfl) (h1:vs.all (fun v=>v.oneCell')=true:=by exact rfl) (hl:Nat.ble (o+vs.length) old.length=true:=by exact rfl) :
  Q6 P ρ ⟨d,.store t x y,ty,pos,af,g⟩ w fun w'=>Bx w0 w' Z G L' D:=by
 have h:=Nat.le_of_ble_eq_true hl
 subst e hc
 refine Ry hL i vs hi ht hs hx hy h1 (Nat.ble_eq_true_of_le (by simpa using h)) ?_
 rw [Ma _ _ _ h]
theorem Bx.cn (h:Bx w0 w Z G L D) (i r:List Nat) (k:Bx w w' (CJ w0 Z (pick L i ++ pick L r)) (lT Lc) L1 D1) (hL:L1 ++ pick L r=L':=by (try dsimp only [pick,nth,List.cons_append,List.nil_append]);all_goals exact rfl) (hD:D1 ++ D=D':=by (try dsimp only [List.cons_append,List.nil_append]);all_goals exact rfl) (e:pick L i=Lc:=by exact rfl) (hn:nodup (i ++ r)=true:=by exact rfl):Bx w0 w' Z G L' D':=by
 subst hL hD
 exact h.cl i r hn k e
theorem Bx.fz (h:Bx w0 w Z G L D) (i j:Nat) {α:Type} [Rp α] {e:TypeId} {A:Option Addr} {c:Nat} {cs:List (List Value)} {l:List α} (hi:L[i]?=some (.own w0.heap.size A c e (Rp.sz α) cs)) (hj:D[j]?=some (.els cs l)) (hL:L.eraseIdx i=L':=by (try dsimp only [List.eraseIdx]);all_goals exact rfl) (hD:D.eraseIdx j=D':=by (try dsimp only [List.eraseIdx]);all_goals exact rfl) :
  Bx w0 w Z G L' (.l A c l :: D'):=by
 subst hL hD
 exact h.OO i j hi hj
theorem Bx.rb (h:Bx w0 w Z G L D) (i:Nat) {base:Nat} {A:Option Addr} {c sz:Nat} {e:TypeId} {cs:List (List Value)} (base':Nat) (hi:L[i]?=some (.own base A c e sz cs)) (hb:base'≤base) (hL:L.set i (.own base' A c e sz cs)=L':=by (try dsimp only [List.set]);all_goals exact rfl):Bx w0 w Z G L' D:=by
 subst hL
 exact h.Zh i base' hi hb
theorem XQ {t:TypeId} {x:Operand} {T:TypeDesc} {z:Value} {s by_:Nat} {α:Type} [Rp α] {F:Nat→Prop} {a:Option Addr} {c:Nat} {l:List α} {k:Nat} {y:α} (cs:List Value) (hu:P.underlying t=some T) (hi:TI P t z s by_)
 (hx:ρ x=.pointer (some ⟨nS a,pE a+k * Rp.sz α,none⟩)) (h:kN F w a c l) (hy:l[k]?=some y) (hD:Jc T=true:=by exact rfl) (hs:s=cs.length:=by exact rfl) (hr:∀ ds,Rp.rep F w ds y→ds=cs:=by exact fun _ h=>h):Yl P ρ (.load t x) d ty pos af g w (.agg cs.toArray):=nN cs hu hD hi hs hx (uy h hy hr)
theorem ng {t te:TypeId} {x:Operand} {T:TypeDesc} {z:Value} {s by_ b:Nat} {old:Array Value} (cs:List Value) (hu:P.underlying t=some T) (hi:TI P t z s by_)
 (hx:ρ x=.pointer (some ⟨b,0,none⟩)) (h:nA w b te old) (hD:Jc T=true:=by exact rfl) (hs:s=cs.length:=by exact rfl) (hr:(old.toList.drop 0).take cs.length=cs:=by exact rfl):Yl P ρ (.load t x) d ty pos af g w (.agg cs.toArray):=nN cs hu hD hi hs hx (Cells.part h.cells (o2:=0) hr)
end
end Go.Fw
set_option linter.unusedVariables false
namespace Go.Fw
open Go.RowKit
def RP (R:Value→World→Prop) (V:List PanicEntry→World→Prop):Ending→World→Prop
 | .returned v,w=>R v w
 | .panicked c,w=>V c w
 | .outgrown,_=>False
def Wy (v:Value) (c:List PanicEntry):Prop:=∃ l:List PanicEntry,c=⟨v,false,false⟩ :: l∧∀ e ∈ l,e.goexit=false
theorem xE (v:Value):Wy v [⟨v,false,false⟩]:=⟨[],rfl,fun _ h=>by cases h⟩
section
variable {P:Program} {N:Fz} {ops:Array Oper} {K:KK} {rest:List Oper} {f:Fr} {w:World} {d:Option Nat} {op:Op} {ty:TypeId} {pos:String} {af:Array Edge}
theorem Jg {w':World} {g:FuncId} {args:Array Value} {R:Value→World→Prop} {V:List PanicEntry→World→Prop}
  (h:(execOp (ev f) ⟨d,op,ty,pos,af,none⟩).run P w=.ok (.enter g args) w') (hc:Calls P g args w' (RP R V))
  (kp:∀ c w'',V c w''→K.p f c w'') (k:∀ v w'',R v w''→oG P N ops K rest (ny f d v) w'') :
  oG P N ops K (⟨d,op,ty,pos,af,none⟩ :: rest) f w:=by
 unfold oG
 intro hok a ha
 have h1:=hok _ (List.mem_cons_self ..)
 refine wpList_plain rfl fun K' hK=>?_
 unfold Oper.wp
 rw [ha.wh,h]
 refine hc.mono fun e w'' he=>?_
 cases e with
 | returned v=>
  have:=k v w'' he
  unfold oG at this
  exact hK _ _ (this (fun o ho=>hok o (List.mem_cons_of_mem _ ho)) _ (ha.put d (qK h1) v))
 | panicked c=>exact ⟨f,ha,kp c w'' he⟩
 | outgrown=>exact he.elim
theorem Tx {w':World} {v:Value} (h:(execOp (ev f) ⟨d,op,ty,pos,af,none⟩).run P w=.halt (.panic v) w') (kp:K.p f [⟨v,false,false⟩] w') :
  oG P N ops K (⟨d,op,ty,pos,af,none⟩ :: rest) f w:=by
 unfold oG
 intro hok a ha
 refine wpList_plain rfl fun K' hK=>?_
 unfold Oper.wp
 rw [ha.wh,h]
 exact ⟨f,ha,kp⟩
theorem zU {x:Operand} {t:TypeId} {v:Value} (hx:ev f x=.iface t v) (kp:K.p f [⟨.iface t v,false,false⟩] w):oG P N ops K (⟨d,.panic x,ty,pos,af,none⟩ :: rest) f w:=
 Tx (v:=.iface t v) (by simp [execOp,hx,Instr.panic,goPanic]) kp
end
section
variable {P:Program} {w:World} {ρ:Operand→Value} {d:Option Nat} {ty:TypeId} {pos:String} {af:Array Edge} {g:Option (Nat × Bool)}
def Rt (P:Program) (ρ:Operand→Value) (o:Oper) (w:World):Prop:=∃ w' v,(execOp ρ o).run P w=.halt (.panic (.iface P.rt.boundsError v)) w'∧(w'=w ∨ w'=w.drew)
theorem Nj {t e:TypeId} {x y:Operand} {n c:Nat} {k:IntKind} {i:Int} (ht:P.underlying t=some (.slice e)) {a:Option Addr} (hx:ρ x=.slice a n c)
  (hy:ρ y=.int k i) (hi:¬ (0≤i∧i < n)):Rt P ρ ⟨d,.indexAddr t x y,ty,pos,af,g⟩ w:=by
 have hb:∀ m:Int,∃ w' v,(boundsPanic (α:=Value) k i m .index).run P w=.halt (.panic (.iface P.rt.boundsError v)) w'∧(w'=w ∨ w'=w.drew):=fun m=>by
  unfold boundsPanic
  by_cases h:(k != .u64 && decide (0≤i) && decide (i≤31))=true
  · refine ⟨w.drew,?_⟩
    simp [h,runtimePanic,goPanic,Question.forced]
  · refine ⟨w,?_⟩
    simp [h,runtimePanic,goPanic]
 have h2:(execOp ρ ⟨d,.indexAddr t x y,ty,pos,af,g⟩).run P w=((boundsPanic (α:=Value) k i (if a=none then 0 else n) .index).run P w).andThen fun v w=>.ok (.value v) w:=by
  cases a with
  | none=>simp [execOp,hx,hy,Instr.indexAt,run_underlying ht,asIntOf]
  | some a=>simp [execOp,hx,hy,Instr.indexAt,run_underlying ht,asIntOf,hi]
 obtain ⟨w',v,h3,h4⟩:=hb (if a=none then 0 else n)
 exact ⟨w',v,by rw [h2,h3];rfl,h4⟩
end
section
variable {P:Program} {N:Fz} {ops:Array Oper} {S1 S:World→Prop} {T:List Nat} {K:KK} {f:Fr} {w:World} {n:Nat} {L:Array Bool}
theorem O1 {i:Nat} {oi:Oper} {w':World} {g:FuncId} {args:Array Value} {R:Value→World→Prop} {V:List PanicEntry→World→Prop} (hi:ops[i]?=some oi) (hw:sV ops f oi.guard=true)
  (h:(execOp (ev f) oi).run P w=.ok (.enter g args) w') (hc:Calls P g args w' (RP R V)) (kp:∀ c w'',V c w''→∀ f,K.p f c w'')
  (k:∀ v w'',R v w''→DK S1 T S (L.setIfInBounds i true) w''∧rW P N ops S1 S T K n (L.setIfInBounds i true) (ny f oi.dst v) w''):Av P N ops S1 S T K n L f w i:=by
 unfold Av
 intro hok hcl a ha
 have hd:uU N oi=true:=hok oi (by have:=Array.mem_of_getElem? hi;simpa using this)
 unfold wpOp
 simp only [hi]
 rw [if_pos (by rw [tN ha];exact hw)]
 left
 unfold Oper.wp
 rw [ha.wh,h]
 refine hc.mono fun e w'' he=>?_
 cases e with
 | returned v=>
  have h2:=(k v w'' he).2
  unfold rW at h2
  exact ⟨(k v w'' he).1,h2 hok hcl _ (ha.put _ (qK hd) v)⟩
 | panicked c=>exact ⟨f,ha,kp c w'' he⟩
 | outgrown=>exact he.elim
theorem Vw {i:Nat} {oi:Oper} {w':World} {v:Value} (hi:ops[i]?=some oi) (hw:sV ops f oi.guard=true)
  (h:(execOp (ev f) oi).run P w=.halt (.panic v) w') (kp:∀ f,K.p f [⟨v,false,false⟩] w'):Av P N ops S1 S T K n L f w i:=by
 unfold Av
 intro hok hcl a ha
 unfold wpOp
 simp only [hi]
 rw [if_pos (by rw [tN ha];exact hw)]
 left
 unfold Oper.wp
 rw [ha.wh,h]
 exact ⟨f,ha,kp⟩
end
section
variable {P:Program} {N:Fz}
theorem vX {g:FuncId} {fn:Func} {c:Code} {args:Array Value} {w:World} {R:Value→World→Prop} {V:List PanicEntry→World→Prop}
   (hf:P.funcs[g]?=some fn) (hb:fn.body=some c)
   (h:WP P (fn.ntmps,[]) c ⟨Reads P fn R,fun _ _ _=>False,Reads P fn R,fun _ c w=>V c w⟩ (xO args) w)
   (hs:Nat.ble args.size fn.ntmps=true:=by exact rfl) (hok:CK (fn.ntmps,[]) c=true:=by kernel_rfl):Calls P g args w (RP R V):=by
 have hs:=Nat.le_of_ble_eq_true hs
 unfold WP at h
 refine calls_of_wp hf hb (Code.wp_mono (fun e a w q=>?_) (h hok _ ⟨by simp;omega,fun t=>?_,rfl⟩))
 · cases e with
   | normal=>
     obtain ⟨f,h1,h2⟩:=q
     unfold Reads at h2
     obtain ⟨v,hv,hR⟩:=h2 a.tmps h1.get
     exact ⟨h1.dfr,v,hv,hR⟩
   | ret=>
     obtain ⟨f,h1,h2⟩:=q
     unfold Reads at h2
     obtain ⟨v,hv,hR⟩:=h2 a.tmps h1.get
     exact ⟨h1.dfr,v,hv,hR⟩
   | exit i=>obtain ⟨f,h1,h2⟩:=q;exact h2.elim
   | panic c=>obtain ⟨f,h1,h2⟩:=q;exact ⟨h1.dfr,h2⟩
   | _=>exact q.elim
 · unfold xO
   simp only [Array.getD_eq_getD_getElem?]
   rw [Array.getElem?_append]
   split
   · rfl
   · rename_i hlt
     rw [Array.getElem?_replicate]
     split
     · rw [Array.getElem?_eq_none (by omega)];rfl
     · rw [Array.getElem?_eq_none (by omega)]
theorem Aw {args:Array Value} {n:Nat} (hs:args.size≤n):Co (n,[]) (xO args) { tmps:=args ++ Array.replicate (n - args.size) undef,defers:=[] }:=by
 refine ⟨by simp;omega,fun t=>?_,rfl⟩
 unfold xO
 simp only [Array.getD_eq_getD_getElem?]
 rw [Array.getElem?_append]
 split
 · rfl
 · rename_i hlt
   rw [Array.getElem?_replicate]
   split
   · rw [Array.getElem?_eq_none (by omega)];rfl
   · rw [Array.getElem?_eq_none (by omega)]
def LY (P:Program) (N:Fz) (c:Code) (Q:Exit→Act→World→Prop) (f:Fr) (w:World):Prop:=CK N c=true→∀ a,Co N f a→c.wp P Q a w
theorem Tg {c:Code} {Q:Post} {Q':Exit→Act→World→Prop} {f:Fr} {w:World} (h:WP P N c Q f w) (k:∀ e a w,lift N Q e a w→Q' e a w):LY P N c Q' f w:=fun hok a ha=>by
 unfold WP at h
 exact Code.wp_mono (fun e a w q=>k e a w q) (h hok a ha)
theorem Ug {x y:Code} {Q:Exit→Act→World→Prop} {X:Nat→Fr→World→Prop} {R:Fr→World→Prop} {V:Fr→List PanicEntry→World→Prop} {f:Fr} {w:World}
  (h:WP P N x ⟨fun f w=>LY P N y Q f w,X,R,V⟩ f w) (k:∀ e a w,lift N ⟨fun _ _=>False,X,R,V⟩ e a w→Q e a w):LY P N (.seq x y) Q f w:=fun hok a ha=>by
 unfold WP at h
 simp only [CK,Bool.and_eq_true] at hok
 refine wp_seq (Code.wp_mono (fun e a w q=>?_) (h hok.1 a ha))
 cases e with
 | normal=>obtain ⟨f,h1,h2⟩:=q;exact h2 hok.2 a h1
 | _=>exact k _ a w q
theorem y7 {n:Nat} {d e:List Deferred}:∀ (c:Code),CK (n,d) c=true→CK (n,e) c=true
 | .region _ _ _,h=>h
 | .seq a b,h=>by
  simp only [CK,Bool.and_eq_true] at h ⊢
  exact ⟨y7 a h.1,y7 b h.2⟩
 | .cond _ a b,h=>by
  simp only [CK,Bool.and_eq_true] at h ⊢
  exact ⟨y7 a h.1,y7 b h.2⟩
 | .block _ c,h=>y7 c h
 | .loop c,h=>y7 c h
 | .scope c,h=>y7 c h
 | .skip,_=>rfl
 | .ret,_=>rfl
 | .exit _,_=>rfl
 | .rangeFunc _ _ _ _,_=>rfl
 | .label _,_=>rfl
 | .goto _,_=>rfl
 | .refuse _,_=>rfl
theorem QD {i:Nat} {o1 o2:Oper} {y:Code} {Q:Exit→Act→World→Prop} {f:Fr} {w:World} {v:Value} {d:Deferred}
  (e1:(execOp (ev f) o1).run P w=.ok (.value v) w) (e2:(execOp (ev (ny f o1.dst v)) o2).run P w=.ok (.defer d) w)
  (k:LY P (N.1,d :: N.2) y Q (ny f o1.dst v) w) (h1:o1.guard=none:=by rfl) (h2:o2.guard=none:=by rfl) (h3:o2.dst=none:=by rfl) :
  LY P N (.seq (.region i #[o1,o2] false) y) Q f w:=fun hok a ha=>by
 simp only [CK,Bool.and_eq_true] at hok
 have hd1:uU N o1=true:=by have:=hok.1;simp at this;exact this.1
 have hp:=ha.put o1.dst (qK hd1) v
 refine wp_seq (wp_region_lit (l:=[o1,o2]) ?_)
 refine wpList_plain h1 fun K1 hK1=>?_
 unfold Oper.wp
 rw [ha.wh,e1]
 refine hK1 _ _ (wpList_plain h2 fun K2 hK2=>?_)
 unfold Oper.wp
 rw [hp.wh,e2]
 refine hK2 _ _ (wpList_nil ?_)
 rw [h3]
 refine k (y7 y hok.2) _ ⟨hp.size,hp.get,?_⟩
 show d :: (a.put o1.dst v).defers=d :: N.2
 rw [hp.dfr]
theorem Ie {g:FuncId} {fn:Func} {c:Code} {args:Array Value} {w:World} {R:Ending→World→Prop}
  (hf:P.funcs[g]?=some fn) (hb:fn.body=some c) (h:LY P (fn.ntmps,[]) c (bodyPostD P fn R) (xO args) w)
  (hs:Nat.ble args.size fn.ntmps=true:=by exact rfl) (hok:CK (fn.ntmps,[]) c=true:=by kernel_rfl):Calls P g args w R:=
 calls_of_wp_defers hf hb (h hok _ (Aw (Nat.le_of_ble_eq_true hs)))
def AQ:FrameMode→Value × FrameMode
 | .panicking (⟨v,false,false⟩ :: l)=>(v,.panicking (⟨v,true,false⟩ :: l))
 | m=>(.nilIface,m)
def RD (u:FrameMode) (R:World→Prop) (V:List PanicEntry→World→Prop):Ending→FrameMode→World→Prop
 | .returned _,u',w=>u'=u∧R w
 | .panicked c,u',w=>u'=u∧V c w
 | .outgrown,_,_=>False
theorem WJ {i:Nat} {o:Oper} {Q:Exit→Act→List Frame→World→Prop} {a:Act} {c:Frame} {cs:List Frame} {w:World} (hg:o.guard=none) (he:(execOp a.eval o).run P w=.ok .recover w)
  (k:Q .normal (a.put o.dst (AQ c.mode).1) ({ c with mode:=(AQ c.mode).2 } :: cs) w):(Code.region i #[o] false).wpS P Q a (c :: cs) w:=by
 refine wpS_region ?_
 show wpOpsS P #[o] Q [0] a (c :: cs) w
 simp only [wpOpsS,List.getElem?_toArray,List.getElem?_cons_zero,Region.wanted,hg,if_true,he]
 have e:∀ m,c.mode=m→({ c with mode:=m }:Frame)=c:=fun m h=>by subst h;rfl
 cases hm:c.mode with
 | panicking l=>
  cases l with
  | nil=>simp only [recoverD,hm];rw [hm] at k;simp only [AQ] at k;rw [e _ hm] at k;exact k
  | cons e l=>
   obtain ⟨v,r,g⟩:=e
   cases r <;> cases g <;> simp only [recoverD,hm] <;> (rw [hm] at k;simp only [AQ] at k;first | exact k | (rw [e _ hm] at k;exact k))
 | _=>simp only [recoverD,hm];rw [hm] at k;simp only [AQ] at k;rw [e _ hm] at k;exact k
theorem D6 {g:FuncId} {fn:Func} {i:Nat} {o:Oper} {y:Code} {args:Array Value} {u:FrameMode} {w:World} {R:World→Prop} {V:List PanicEntry→World→Prop}
  (hf:P.funcs[g]?=some fn) (hb:fn.body=some (.seq (.region i #[o] false) y)) (hr:fn.results=#[]) (he:(execOp (ev (xO args)) o).run P w=.ok .recover w)
  (h:WP P (fn.ntmps,[]) y ⟨fun _ w=>R w,fun _ _ _=>False,fun _ w=>R w,fun _ c w=>V c w⟩ (ny (xO args) o.dst (AQ u).1) w)
  (hg:o.guard=none:=by rfl) (hs:Nat.ble args.size fn.ntmps=true:=by exact rfl) (hok:CK (fn.ntmps,[]) (.seq (.region i #[o] false) y)=true:=by kernel_rfl) :
  CallsD P g args u w (RD (AQ u).2 R V):=by
 refine callsD_of_wpS hf hb fun c cs hu=>?_
 subst hu
 simp only [CK,Bool.and_eq_true] at hok
 have ha:=Aw (Nat.le_of_ble_eq_true hs)
 have hd1:uU (fn.ntmps,[]) o=true:=by have:=hok.1;simp at this;exact this
 refine wpS_seq (WJ hg (by rw [ha.wh];exact he) (wpS_of_wp ?_))
 unfold WP at h
 refine Code.wp_mono (fun e a w q=>?_) (h hok.2 _ (ha.put o.dst (qK hd1) _))
 cases e with
 | normal=>obtain ⟨f,h1,h2⟩:=q;exact ⟨h1.dfr,_,rfl,_,results_none hr _ P w,rfl,h2⟩
 | ret=>obtain ⟨f,h1,h2⟩:=q;exact ⟨h1.dfr,_,rfl,_,results_none hr _ P w,rfl,h2⟩
 | panic c=>obtain ⟨f,h1,h2⟩:=q;exact ⟨h1.dfr,_,rfl,rfl,h2⟩
 | exit i=>obtain ⟨f,h1,h2⟩:=q;exact h2.elim
 | _=>exact q.elim
theorem M4 {g:FuncId} {fn:Func} {i:Nat} {o:Oper} {y z:Code} {args:Array Value} {u:FrameMode} {w:World} {R:World→Prop} {V:List PanicEntry→World→Prop}
  (hf:P.funcs[g]?=some fn) (hb:fn.body=some (.seq (.seq (.region i #[o] false) y) z)) (hr:fn.results=#[]) (he:(execOp (ev (xO args)) o).run P w=.ok .recover w)
  (h:WP P (fn.ntmps,[]) y ⟨fun f w=>WP P (fn.ntmps,[]) z ⟨fun _ w=>R w,fun _ _ _=>False,fun _ w=>R w,fun _ c w=>V c w⟩ f w,fun _ _ _=>False,fun _ w=>R w,fun _ c w=>V c w⟩ (ny (xO args) o.dst (AQ u).1) w)
  (hg:o.guard=none:=by rfl) (hs:Nat.ble args.size fn.ntmps=true:=by exact rfl) (hok:CK (fn.ntmps,[]) (.seq (.seq (.region i #[o] false) y) z)=true:=by kernel_rfl) :
  CallsD P g args u w (RD (AQ u).2 R V):=by
 refine callsD_of_wpS hf hb fun c cs hu=>?_
 subst hu
 simp only [CK,Bool.and_eq_true] at hok
 have ha:=Aw (Nat.le_of_ble_eq_true hs)
 have hd1:uU (fn.ntmps,[]) o=true:=by have:=hok.1.1;simp at this;exact this
 refine wpS_seq (wpS_seq (WJ hg (by rw [ha.wh];exact he) (wpS_of_wp ?_)))
 unfold WP at h
 have fin:∀ (e:Exit) (a:Act) (w:World),lift (fn.ntmps,[]) ⟨fun _ w=>R w,fun _ _ _=>False,fun _ w=>R w,fun _ c w=>V c w⟩ e a w→bodyPostS P fn c cs (RD (AQ c.mode).2 R V) e a ({ c with mode:=(AQ c.mode).2 } :: cs) w:=fun e a w q=>by
  cases e with
  | normal=>obtain ⟨f,h1,h2⟩:=q;exact ⟨h1.dfr,_,rfl,_,results_none hr _ P w,rfl,h2⟩
  | ret=>obtain ⟨f,h1,h2⟩:=q;exact ⟨h1.dfr,_,rfl,_,results_none hr _ P w,rfl,h2⟩
  | panic c=>obtain ⟨f,h1,h2⟩:=q;exact ⟨h1.dfr,_,rfl,rfl,h2⟩
  | exit i=>obtain ⟨f,h1,h2⟩:=q;exact h2.elim
  | _=>exact q.elim
 refine Code.wp_mono (fun e a w q=>?_) (h hok.1.2 _ (ha.put o.dst (qK hd1) _))
 cases e with
 | normal=>
  obtain ⟨f,h1,h2⟩:=q
  exact wpS_of_wp (Code.wp_mono (fun e a w q=>fin e a w q) (h2 hok.2 _ h1))
 | ret=>exact fin .ret a w q
 | panic c=>exact fin (.panic c) a w q
 | exit i=>obtain ⟨f,h1,h2⟩:=q;exact h2.elim
 | _=>exact q.elim
end
end Go.Fw
set_option linter.unusedVariables false
namespace Go.Proofs.Ytfglbdkfnphjgaa
open Go.RowKit Go.Fw
def EA (f:BitVec 64→BitVec 64→BitVec 64) (a b:Int):Int:=wr (f (BitVec.ofInt 64 a) (BitVec.ofInt 64 b)).toNat
section
variable {P:Program} {w:World} {ρ:Operand→Value} {d:Option Nat} {ty:TypeId} {pos:String} {af:Array Edge} {g:Option (Nat × Bool)} {t t':TypeId} {x y:Operand} {a b:Int}
theorem Ws (hx:ρ x=V a) (hy:ρ y=V b):Yl P ρ (.binOp .and t x y t') d ty pos af g w (V (EA (· &&& ·) a b)):=by
 have h:Op.intBits .and .i64 a b=pure (V (EA (· &&& ·) a b)):=rfl
 simp [Yl,execOp,hx,hy,binOp,eqGuard,h]
theorem YI (hx:ρ x=V a) (hy:ρ y=V b):Yl P ρ (.binOp .or t x y t') d ty pos af g w (V (EA (· ||| ·) a b)):=by
 have h:Op.intBits .or .i64 a b=pure (V (EA (· ||| ·) a b)):=rfl
 simp [Yl,execOp,hx,hy,binOp,eqGuard,h]
theorem V8 (hx:ρ x=V a) (hy:ρ y=V b):Yl P ρ (.binOp .xor t x y t') d ty pos af g w (V (EA (· ^^^ ·) a b)):=by
 have h:Op.intBits .xor .i64 a b=pure (V (EA (· ^^^ ·) a b)):=rfl
 simp [Yl,execOp,hx,hy,binOp,eqGuard,h]
theorem XL (hx:ρ x=V a):Yl P ρ (.unOp .neg t x) d ty pos af g w (V (wr (0 - a))):=by
 simp [Yl,execOp,hx,Op.unary,Op.intArith,wr]
theorem I6 {v:Value} (h:∃ D,P.underlying t=some D∧(match D with | .interface _=>false | _=>true)=true) (hx:ρ x=v):Yl P ρ (.makeInterface t x) d ty pos af g w (.iface t v):=by
 obtain ⟨D,h1,h2⟩:=h
 cases D <;> simp_all [Yl,execOp,Instr.makeInterface,run_underlying h1]
end
section
variable {P:Program} {N:Fz} {ops:Array Oper} {K:KK} {rest:List Oper} {f:Fr} {w:World} {d:Option Nat} {ty:TypeId} {pos:String} {af:Array Edge}
theorem V9 {op:Op} {g:Nat × Bool} (h:sV ops f (some g)=true) (k:oG P N ops K (⟨d,op,ty,pos,af,none⟩ :: rest) f w):oG P N ops K (⟨d,op,ty,pos,af,some g⟩ :: rest) f w:=kg h k
theorem YA {op:Op} {g:Nat × Bool} (h:sV ops f (some g)=false) (k:oG P N ops K rest (ny f d undef) w):oG P N ops K (⟨d,op,ty,pos,af,some g⟩ :: rest) f w:=jC h k
theorem XF {x:Operand} {p:Option Addr} (h:ev f x=.pointer p) (k:oG P N ops K rest (ny f d (.pointer p)) w):oG P N ops K (⟨d,(.move x),ty,pos,af,none⟩ :: rest) f w:=kU (vP h) k
theorem WG {x:Operand} {n:Int} (h:ev f x=V n) (k:oG P N ops K rest (ny f d (V n)) w):oG P N ops K (⟨d,(.move x),ty,pos,af,none⟩ :: rest) f w:=kU (Mg h) k
theorem WU {x:Operand} {p:Option Addr} {n m:Nat} (h:ev f x=.slice p n m) (k:oG P N ops K rest (ny f d (.slice p n m)) w):oG P N ops K (⟨d,(.move x),ty,pos,af,none⟩ :: rest) f w:=kU (nC h) k
theorem Xw {x:Operand} {b:Bool} (h:ev f x=.bool b) (k:oG P N ops K rest (ny f d (.bool b)) w):oG P N ops K (⟨d,(.move x),ty,pos,af,none⟩ :: rest) f w:=kU (kL h) k
theorem Yb {x:Operand} {b:ByteArray} (h:ev f x=T b) (k:oG P N ops K rest (ny f d (T b)) w):oG P N ops K (⟨d,(.move x),ty,pos,af,none⟩ :: rest) f w:=kU (kY h) k
theorem Z8 {x:Operand} {a:Addr} (h:ev f x=.pointer (some a)) (k:oG P N ops K rest (ny f d (.pointer (some a))) w):oG P N ops K (⟨d,(.nilCheck x),ty,pos,af,none⟩ :: rest) f w:=kU (Uz h) k
theorem Yk {x:Operand} {n:Int} (h:ev f x=V n) (k:oG P N ops K rest (ny f d (V n)) w):oG P N ops K (⟨d,(.assign x),ty,pos,af,none⟩ :: rest) f w:=kU (Pg h) k
theorem WK {x:Operand} {b:Bool} (h:ev f x=.bool b) (k:oG P N ops K rest (ny f d (.bool b)) w):oG P N ops K (⟨d,(.assign x),ty,pos,af,none⟩ :: rest) f w:=kU (kC h) k
theorem XW {x:Operand} {p:Option Addr} {n m:Nat} (h:ev f x=.slice p n m) (k:oG P N ops K rest (ny f d (.slice p n m)) w):oG P N ops K (⟨d,(.assign x),ty,pos,af,none⟩ :: rest) f w:=kU (nk h) k
theorem XM {x:Operand} {p:Option Addr} (h:ev f x=.pointer p) (k:oG P N ops K rest (ny f d (.pointer p)) w):oG P N ops K (⟨d,(.assign x),ty,pos,af,none⟩ :: rest) f w:=kU (MX h) k
theorem Ye {x:Operand} {b:ByteArray} (h:ev f x=T b) (k:oG P N ops K rest (ny f d (T b)) w):oG P N ops K (⟨d,(.assign x),ty,pos,af,none⟩ :: rest) f w:=kU (mF h) k
theorem Xp {t t':TypeId} {x y:Operand} {n m:Int} (h:ev f x=V n) (h2:ev f y=V m) (k:oG P N ops K rest (ny f d (.bool (decide (n=m)))) w):oG P N ops K (⟨d,(.binOp .eql t x y t'),ty,pos,af,none⟩ :: rest) f w:=kU (kD h h2) k
theorem Xd {t t':TypeId} {x y:Operand} {n m:Int} (h:ev f x=V n) (h2:ev f y=V m) (k:oG P N ops K rest (ny f d (.bool (decide (n≠m)))) w):oG P N ops K (⟨d,(.binOp .neq t x y t'),ty,pos,af,none⟩ :: rest) f w:=kU (rY h h2) k
theorem WI {t t':TypeId} {x y:Operand} {n m:Int} (h:ev f x=V n) (h2:ev f y=V m) (k:oG P N ops K rest (ny f d (.bool (decide (n < m)))) w):oG P N ops K (⟨d,(.binOp .lss t x y t'),ty,pos,af,none⟩ :: rest) f w:=kU (qo h h2) k
theorem Xy {t t':TypeId} {x y:Operand} {n m:Int} (h:ev f x=V n) (h2:ev f y=V m) (k:oG P N ops K rest (ny f d (.bool (decide (n≤m)))) w):oG P N ops K (⟨d,(.binOp .leq t x y t'),ty,pos,af,none⟩ :: rest) f w:=kU (M6 h h2) k
theorem Yv {t t':TypeId} {x y:Operand} {n m:Int} (h:ev f x=V n) (h2:ev f y=V m) (k:oG P N ops K rest (ny f d (.bool (decide (m < n)))) w):oG P N ops K (⟨d,(.binOp .gtr t x y t'),ty,pos,af,none⟩ :: rest) f w:=kU (uX h h2) k
theorem Yx {t t':TypeId} {x y:Operand} {n m:Int} (h:ev f x=V n) (h2:ev f y=V m) (k:oG P N ops K rest (ny f d (.bool (decide (m≤n)))) w):oG P N ops K (⟨d,(.binOp .geq t x y t'),ty,pos,af,none⟩ :: rest) f w:=kU (Bq h h2) k
theorem Xt {x:Operand} {i:Nat} {vs:Array Value} {v:Value} (h:ev f x=.tuple vs) (h2:vs[i]?=some v) (k:oG P N ops K rest (ny f d (v)) w):oG P N ops K (⟨d,(.extract x i),ty,pos,af,none⟩ :: rest) f w:=kU (jZ h h2) k
theorem Yc {t t':TypeId} {x y:Operand} {n m:Int} (h:ev f x=V n) (h2:ev f y=V m) (k:oG P N ops K rest (ny f d (V (wr (n+m)))) w):oG P N ops K (⟨d,(.binOp .add t x y t'),ty,pos,af,none⟩ :: rest) f w:=kU (kE h h2) k
theorem Xx {t t':TypeId} {x y:Operand} {n m:Int} (h:ev f x=V n) (h2:ev f y=V m) (k:oG P N ops K rest (ny f d (V (wr (n - m)))) w):oG P N ops K (⟨d,(.binOp .sub t x y t'),ty,pos,af,none⟩ :: rest) f w:=kU (vW h h2) k
theorem Xa {t t':TypeId} {x y:Operand} {n m:Int} (h:ev f x=V n) (h2:ev f y=V m) (k:oG P N ops K rest (ny f d (V (wr (n * m)))) w):oG P N ops K (⟨d,(.binOp .mul t x y t'),ty,pos,af,none⟩ :: rest) f w:=kU (Td h h2) k
theorem Wn {t t':TypeId} {x y:Operand} {n m:Int} (h:ev f x=V n) (h2:ev f y=V m) (k:oG P N ops K rest (ny f d (V (EA (· &&& ·) n m))) w):oG P N ops K (⟨d,(.binOp .and t x y t'),ty,pos,af,none⟩ :: rest) f w:=kU (Ws h h2) k
theorem ZY {t t':TypeId} {x y:Operand} {n m:Int} (h:ev f x=V n) (h2:ev f y=V m) (k:oG P N ops K rest (ny f d (V (EA (· ||| ·) n m))) w):oG P N ops K (⟨d,(.binOp .or t x y t'),ty,pos,af,none⟩ :: rest) f w:=kU (YI h h2) k
theorem Wu {t t':TypeId} {x y:Operand} {n m:Int} (h:ev f x=V n) (h2:ev f y=V m) (k:oG P N ops K rest (ny f d (V (EA (· ^^^ ·) n m))) w):oG P N ops K (⟨d,(.binOp .xor t x y t'),ty,pos,af,none⟩ :: rest) f w:=kU (V8 h h2) k
theorem Xm {t:TypeId} {x:Operand} {n:Int} (h:ev f x=V n) (k:oG P N ops K rest (ny f d (V (wr (0 - n)))) w):oG P N ops K (⟨d,(.unOp .neg t x),ty,pos,af,none⟩ :: rest) f w:=kU (XL h) k
theorem Xg {c x y:Operand} {b:Bool} (h:ev f c=.bool true) (h2:ev f x=.bool b) (k:oG P N ops K rest (ny f d (.bool b)) w):oG P N ops K (⟨d,(.pick c x y),ty,pos,af,none⟩ :: rest) f w:=kU (kr h h2) k
theorem Xf {c x y:Operand} {b:Bool} (h:ev f c=.bool false) (h2:ev f y=.bool b) (k:oG P N ops K rest (ny f d (.bool b)) w):oG P N ops K (⟨d,(.pick c x y),ty,pos,af,none⟩ :: rest) f w:=kU (jY h h2) k
theorem XD {t:TypeId} {x:Operand} {b:Bool} (h:ev f x=.bool b) (k:oG P N ops K rest (ny f d (.bool (!b))) w):oG P N ops K (⟨d,(.unOp .not t x),ty,pos,af,none⟩ :: rest) f w:=kU (Al h) k
end
section
variable {P:Program} {N:Fz} {Q:Post} {f:Fr} {w:World}
theorem qF {c:Operand} {x y:Code} {p:Prop} [Decidable p] (hc:ev f c=.bool (decide p)) (ht:p→WP P N x Q f w) (hf:¬ p→WP P N y Q f w):WP P N (.cond c x y) Q f w:=
 if h:p then jN (hc.trans (bt h)) (ht h) else jK (hc.trans (bf h)) (hf h)
end
theorem go {G R:Prop} (k:R) (h:R→G:=by
 intro k
 repeat (first
  | refine Jb ?_
  | refine zW ?_
  | refine LZ ?_
  | refine EU ?_
  | refine oM ?_
  | refine XF rfl ?_
  | refine WG rfl ?_
  | refine WU rfl ?_
  | refine Xw rfl ?_
  | refine Yb rfl ?_
  | refine Z8 rfl ?_
  | refine Yk rfl ?_
  | refine WK rfl ?_
  | refine XW rfl ?_
  | refine XM rfl ?_
  | refine Ye rfl ?_
  | refine Xp rfl rfl ?_
  | refine Xd rfl rfl ?_
  | refine WI rfl rfl ?_
  | refine Xy rfl rfl ?_
  | refine Yv rfl rfl ?_
  | refine Yx rfl rfl ?_
  | refine Xt rfl rfl ?_
  | refine Yc rfl rfl ?_
  | refine Xx rfl rfl ?_
  | refine Xa rfl rfl ?_
  | refine Wn rfl rfl ?_
  | refine ZY rfl rfl ?_
  | refine Wu rfl rfl ?_
  | refine Xm rfl ?_
  | refine Xg rfl rfl ?_
  | refine Xf rfl rfl ?_
  | refine XD rfl ?_
  | refine V9 rfl ?_
  | refine YA rfl ?_
  | refine jN rfl ?_
  | refine jK rfl ?_)
 exact k):G:=h k
def BI (b:Bool):Int:=if b then 1 else 0
theorem Bb {b:Bool} {w:World}:Calls Try.prog 121 #[.bool b] w (qW fun v w'=>v=V (BI b)∧w'=w):=by
 refine cf Try.func121 rfl ?_
 refine lK [(0,.bool b)] ⟨rfl,trivial⟩ fun av=>?_
 cases b with
 | true=>
  refine go ?_
  refine kT ?_
  exact jI rfl (lq rfl) ⟨rfl,rfl⟩
 | false=>
  refine go ?_
  refine kT ?_
  exact jI rfl (lq rfl) ⟨rfl,rfl⟩
end Go.Proofs.Ytfglbdkfnphjgaa
