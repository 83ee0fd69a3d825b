/- Short words for the printed walks. -/
import Derived.Test.YtfglbdkfnphjgaaLt
import Derived.Test.YtfglbdkfnphjgaaZ3
import Derived.Recover
set_option linter.unusedVariables false
namespace Go.Proofs.Ytfglbdkfnphjgaa
open Go.RowKit Go.Fw
noncomputable section
abbrev Z {α : Type} (a : Option Addr) (l : List α) (c : Nat) : Value := .slice a l.length c
abbrev V (n : Int) : Value := Vi n
abbrev T (n : ByteArray) : Value := Vt n
abbrev sz (α : Type) [Rp α] : Nat := Rp.sz α
abbrev O (e : Nat) (a : Option Addr) (c : Nat) (t : TypeId) (α : Type) [Rp α] (q : List (List Value)) : It := .own e a c t (Rp.sz α) q
theorem ca {α : Type} {a : α} {l m : List α} : a :: l ++ m = a :: (l ++ m) := rfl
theorem na {α : Type} {l : List α} : [] ++ l = l := rfl
theorem cb {a b : Bool} (h : a = b) : Value.bool a = .bool b := congrArg Value.bool h
theorem s : type_of% @jS := @jS
theorem q : type_of% @Ji := @Ji
theorem g : type_of% @zY := @zY
theorem n : type_of% @Lu := @Lu
theorem y : type_of% @trivial := @trivial
theorem mp : type_of% @vQ := @vQ
theorem mi : type_of% @Ma := @Ma
theorem xn : type_of% @VT := @VT
theorem xi : type_of% @Qt := @Qt
theorem wk : type_of% @EK := @EK
theorem sc : type_of% @Dp := @Dp
theorem ec : type_of% @qg := @qg
theorem iv : type_of% @mV := @mV
theorem tb : type_of% @RY := @RY
theorem nA : type_of% @mF := @mF
theorem oc : type_of% @O3 := @O3
theorem oo : type_of% @YB := @YB
theorem os : type_of% @XQ := @XQ
theorem nZ : type_of% @kK.nil := @kK.nil
abbrev BA := ByteArray
abbrev Gv := jV
abbrev Gi := oP
abbrev Ge := jA
abbrev Gs := jO
abbrev Gr := nk
abbrev Gn := nK
abbrev Gm := lG
abbrev Gt := iA
theorem F8 : type_of% @Try.underlying3 := @Try.underlying3
theorem u4_ : type_of% @Try.underlying4 := @Try.underlying4
theorem Yb : type_of% @Try.underlying5 := @Try.underlying5
theorem uz : type_of% @Try.underlying9 := @Try.underlying9
theorem sH : type_of% @Try.underlying22 := @Try.underlying22
theorem GY : type_of% @Try.underlying23 := @Try.underlying23
theorem Cv : type_of% @Try.underlying24 := @Try.underlying24
theorem Ca : type_of% @Try.underlying26 := @Try.underlying26
theorem Cn : type_of% @Try.underlying27 := @Try.underlying27
theorem LP : type_of% @Try.underlying28 := @Try.underlying28
theorem CK : type_of% @Try.underlying30 := @Try.underlying30
theorem Kk : type_of% @Try.underlying36 := @Try.underlying36
theorem Vh : type_of% @Try.underlying39 := @Try.underlying39
theorem GZ : type_of% @Try.underlying48 := @Try.underlying48
theorem Vz : type_of% @Try.underlying50 := @Try.underlying50
theorem Fb : type_of% @Try.underlying51 := @Try.underlying51
theorem U0 : type_of% @Try.underlying53 := @Try.underlying53
theorem SE : type_of% @Try.underlying55 := @Try.underlying55
theorem Z5 : type_of% @Try.underlying57 := @Try.underlying57
theorem QE : type_of% @Try.underlying59 := @Try.underlying59
theorem zQ : type_of% @Try.underlying60 := @Try.underlying60
theorem kP : type_of% @Try.underlying70 := @Try.underlying70
theorem Af : type_of% @Try.underlying80 := @Try.underlying80
theorem El : type_of% @Try.underlying82 := @Try.underlying82
theorem Cu : type_of% @Try.underlying97 := @Try.underlying97
theorem tX : type_of% @Try.underlying109 := @Try.underlying109
theorem lV : type_of% @Try.underlying111 := @Try.underlying111
theorem MS : type_of% @Try.underlying127 := @Try.underlying127
theorem mU : type_of% @Try.underlying138 := @Try.underlying138
theorem BP : type_of% @Try.underlying143 := @Try.underlying143
theorem Nh : type_of% @Try.underlying187 := @Try.underlying187
section
variable {ρ : Operand → Value} {d : Option Nat} {ty : TypeId} {pos : String} {af : Array Edge} {g : Option (Nat × Bool)} {w : World} {x : Operand} {b o : Nat}
theorem Dk (h : ρ x = .pointer (some ⟨b, o, none⟩)) : Yl Try.prog ρ (.fieldAddr 26 x 0) d ty pos af g w (.pointer (some ⟨b, o, none⟩)) := qU Try.underlying26 rfl rfl Vk (by decide) h
theorem Al (h : ρ x = .pointer (some ⟨b, o, none⟩)) : Yl Try.prog ρ (.fieldAddr 26 x 1) d ty pos af g w (.pointer (some ⟨b, o + 1, none⟩)) := kX (k := 1) Try.underlying26 rfl rfl RI (by decide) h
theorem FB (h : ρ x = .pointer (some ⟨b, o, none⟩)) : Yl Try.prog ρ (.fieldAddr 30 x 0) d ty pos af g w (.pointer (some ⟨b, o, none⟩)) := qU Try.underlying30 rfl rfl sS (by decide) h
theorem y5 (h : ρ x = .pointer (some ⟨b, o, none⟩)) : Yl Try.prog ρ (.fieldAddr 30 x 1) d ty pos af g w (.pointer (some ⟨b, o + 2, none⟩)) := kX (k := 2) Try.underlying30 rfl rfl Wl (by decide) h
theorem Ef (h : ρ x = .pointer (some ⟨b, o, none⟩)) : Yl Try.prog ρ (.fieldAddr 30 x 2) d ty pos af g w (.pointer (some ⟨b, o + 3, none⟩)) := kX (k := 3) Try.underlying30 rfl rfl VA (by decide) h
theorem Qz (h : ρ x = .pointer (some ⟨b, o, none⟩)) : Yl Try.prog ρ (.fieldAddr 39 x 0) d ty pos af g w (.pointer (some ⟨b, o, none⟩)) := qU Try.underlying39 rfl rfl Ll (by decide) h
theorem TG (h : ρ x = .pointer (some ⟨b, o, none⟩)) : Yl Try.prog ρ (.fieldAddr 39 x 1) d ty pos af g w (.pointer (some ⟨b, o + 1, none⟩)) := kX (k := 1) Try.underlying39 rfl rfl LA (by decide) h
theorem Qb (h : ρ x = .pointer (some ⟨b, o, none⟩)) : Yl Try.prog ρ (.fieldAddr 39 x 2) d ty pos af g w (.pointer (some ⟨b, o + 2, none⟩)) := kX (k := 2) Try.underlying39 rfl rfl mP (by decide) h
theorem WW (h : ρ x = .pointer (some ⟨b, o, none⟩)) : Yl Try.prog ρ (.fieldAddr 39 x 3) d ty pos af g w (.pointer (some ⟨b, o + 3, none⟩)) := kX (k := 3) Try.underlying39 rfl rfl Aj (by decide) h
theorem KX (h : ρ x = .pointer (some ⟨b, o, none⟩)) : Yl Try.prog ρ (.fieldAddr 53 x 0) d ty pos af g w (.pointer (some ⟨b, o, none⟩)) := qU Try.underlying53 rfl rfl mP (by decide) h
theorem TB (h : ρ x = .pointer (some ⟨b, o, none⟩)) : Yl Try.prog ρ (.fieldAddr 53 x 1) d ty pos af g w (.pointer (some ⟨b, o + 1, none⟩)) := kX (k := 1) Try.underlying53 rfl rfl mP (by decide) h
theorem YZ (h : ρ x = .pointer (some ⟨b, o, none⟩)) : Yl Try.prog ρ (.fieldAddr 57 x 0) d ty pos af g w (.pointer (some ⟨b, o, none⟩)) := qU Try.underlying57 rfl rfl mP (by decide) h
theorem TK (h : ρ x = .pointer (some ⟨b, o, none⟩)) : Yl Try.prog ρ (.fieldAddr 57 x 1) d ty pos af g w (.pointer (some ⟨b, o + 1, none⟩)) := kX (k := 1) Try.underlying57 rfl rfl Zy (by decide) h
theorem Ql (h : ρ x = .pointer (some ⟨b, o, none⟩)) : Yl Try.prog ρ (.fieldAddr 57 x 2) d ty pos af g w (.pointer (some ⟨b, o + 2, none⟩)) := kX (k := 2) Try.underlying57 rfl rfl Aj (by decide) h
theorem Le (h : ρ x = .pointer (some ⟨b, o, none⟩)) : Yl Try.prog ρ (.fieldAddr 50 x 0) d ty pos af g w (.pointer (some ⟨b, o, none⟩)) := qU Try.underlying50 rfl rfl R3 (by decide) h
theorem Ec (h : ρ x = .pointer (some ⟨b, o, none⟩)) : Yl Try.prog ρ (.fieldAddr 53 x 2) d ty pos af g w (.pointer (some ⟨b, o + 2, none⟩)) := kX (k := 2) Try.underlying53 rfl rfl VQ (by decide) h
theorem Tv (h : ρ x = .pointer (some ⟨b, o, none⟩)) : Yl Try.prog ρ (.fieldAddr 59 x 0) d ty pos af g w (.pointer (some ⟨b, o, none⟩)) := qU Try.underlying59 rfl rfl nX (by decide) h
theorem QF (h : ρ x = .pointer (some ⟨b, o, none⟩)) : Yl Try.prog ρ (.fieldAddr 59 x 1) d ty pos af g w (.pointer (some ⟨b, o + 1, none⟩)) := kX (k := 1) Try.underlying59 rfl rfl mP (by decide) h
theorem Td (h : ρ x = .pointer (some ⟨b, o, none⟩)) : Yl Try.prog ρ (.fieldAddr 59 x 2) d ty pos af g w (.pointer (some ⟨b, o + 2, none⟩)) := kX (k := 2) Try.underlying59 rfl rfl mP (by decide) h
theorem QG (h : ρ x = .pointer (some ⟨b, o, none⟩)) : Yl Try.prog ρ (.fieldAddr 59 x 3) d ty pos af g w (.pointer (some ⟨b, o + 3, none⟩)) := kX (k := 3) Try.underlying59 rfl rfl mP (by decide) h
theorem TN (h : ρ x = .pointer (some ⟨b, o, none⟩)) : Yl Try.prog ρ (.fieldAddr 59 x 5) d ty pos af g w (.pointer (some ⟨b, o + 5, none⟩)) := kX (k := 5) Try.underlying59 rfl rfl mP (by decide) h
theorem Lj (h : ρ x = .pointer (some ⟨b, o, none⟩)) : Yl Try.prog ρ (.fieldAddr 59 x 6) d ty pos af g w (.pointer (some ⟨b, o + 6, none⟩)) := kX (k := 6) Try.underlying59 rfl rfl mP (by decide) h
theorem Kt (h : ρ x = .pointer (some ⟨b, o, none⟩)) : Yl Try.prog ρ (.fieldAddr 82 x 0) d ty pos af g w (.pointer (some ⟨b, o, none⟩)) := qU Try.underlying82 rfl rfl nX (by decide) h
theorem Nc (h : ρ x = .pointer (some ⟨b, o, none⟩)) : Yl Try.prog ρ (.fieldAddr 82 x 1) d ty pos af g w (.pointer (some ⟨b, o + 1, none⟩)) := kX (k := 1) Try.underlying82 rfl rfl mP (by decide) h
theorem F4 (h : ρ x = .pointer (some ⟨b, o, none⟩)) : Yl Try.prog ρ (.fieldAddr 82 x 2) d ty pos af g w (.pointer (some ⟨b, o + 2, none⟩)) := kX (k := 2) Try.underlying82 rfl rfl nV (by decide) h
theorem CZ (h : ρ x = .pointer (some ⟨b, o, none⟩)) : Yl Try.prog ρ (.fieldAddr 82 x 3) d ty pos af g w (.pointer (some ⟨b, o + 3, none⟩)) := kX (k := 3) Try.underlying82 rfl rfl za (by decide) h
theorem yV (h : ρ x = .pointer (some ⟨b, o, none⟩)) : Yl Try.prog ρ (.fieldAddr 102 x 0) d ty pos af g w (.pointer (some ⟨b, o, none⟩)) := qU Try.underlying102 rfl rfl ZU (by decide) h
theorem lZ (h : ρ x = .pointer (some ⟨b, o, none⟩)) : Yl Try.prog ρ (.fieldAddr 102 x 1) d ty pos af g w (.pointer (some ⟨b, o + 1, none⟩)) := kX (k := 1) Try.underlying102 rfl rfl mP (by decide) h
theorem P8 (h : ρ x = .pointer (some ⟨b, o, none⟩)) : Yl Try.prog ρ (.fieldAddr 102 x 2) d ty pos af g w (.pointer (some ⟨b, o + 2, none⟩)) := kX (k := 2) Try.underlying102 rfl rfl mP (by decide) h
theorem qV (h : ρ x = .pointer (some ⟨b, o, none⟩)) : Yl Try.prog ρ (.fieldAddr 102 x 3) d ty pos af g w (.pointer (some ⟨b, o + 3, none⟩)) := kX (k := 3) Try.underlying102 rfl rfl Ll (by decide) h
theorem xM (h : ρ x = .pointer (some ⟨b, o, none⟩)) : Yl Try.prog ρ (.fieldAddr 111 x 0) d ty pos af g w (.pointer (some ⟨b, o, none⟩)) := qU Try.underlying111 rfl rfl mP (by decide) h
theorem Ac (h : ρ x = .pointer (some ⟨b, o, none⟩)) : Yl Try.prog ρ (.fieldAddr 111 x 1) d ty pos af g w (.pointer (some ⟨b, o + 1, none⟩)) := kX (k := 1) Try.underlying111 rfl rfl mP (by decide) h
theorem LU (h : ρ x = .pointer (some ⟨b, o, none⟩)) : Yl Try.prog ρ (.fieldAddr 111 x 2) d ty pos af g w (.pointer (some ⟨b, o + 2, none⟩)) := kX (k := 2) Try.underlying111 rfl rfl mP (by decide) h
theorem zB (h : ρ x = .pointer (some ⟨b, o, none⟩)) : Yl Try.prog ρ (.fieldAddr 111 x 3) d ty pos af g w (.pointer (some ⟨b, o + 3, none⟩)) := kX (k := 3) Try.underlying111 rfl rfl nX (by decide) h
theorem EY (h : ρ x = .pointer (some ⟨b, o, none⟩)) : Yl Try.prog ρ (.fieldAddr 111 x 4) d ty pos af g w (.pointer (some ⟨b, o + 4, none⟩)) := kX (k := 4) Try.underlying111 rfl rfl nX (by decide) h
theorem Bl (h : ρ x = .pointer (some ⟨b, o, none⟩)) : Yl Try.prog ρ (.fieldAddr 111 x 5) d ty pos af g w (.pointer (some ⟨b, o + 5, none⟩)) := kX (k := 5) Try.underlying111 rfl rfl mP (by decide) h
theorem LC (h : ρ x = .pointer (some ⟨b, o, none⟩)) : Yl Try.prog ρ (.fieldAddr 111 x 6) d ty pos af g w (.pointer (some ⟨b, o + 6, none⟩)) := kX (k := 6) Try.underlying111 rfl rfl mP (by decide) h
theorem xO (h : ρ x = .pointer (some ⟨b, o, none⟩)) : Yl Try.prog ρ (.fieldAddr 111 x 7) d ty pos af g w (.pointer (some ⟨b, o + 7, none⟩)) := kX (k := 7) Try.underlying111 rfl rfl su (by decide) h
theorem Cc (h : ρ x = .pointer (some ⟨b, o, none⟩)) : Yl Try.prog ρ (.fieldAddr 111 x 8) d ty pos af g w (.pointer (some ⟨b, o + 8, none⟩)) := kX (k := 8) Try.underlying111 rfl rfl nX (by decide) h
theorem LX (h : ρ x = .pointer (some ⟨b, o, none⟩)) : Yl Try.prog ρ (.fieldAddr 111 x 9) d ty pos af g w (.pointer (some ⟨b, o + 9, none⟩)) := kX (k := 9) Try.underlying111 rfl rfl mP (by decide) h
theorem uT (h : ρ x = .pointer (some ⟨b, o, none⟩)) : Yl Try.prog ρ (.fieldAddr 111 x 10) d ty pos af g w (.pointer (some ⟨b, o + 10, none⟩)) := kX (k := 10) Try.underlying111 rfl rfl su (by decide) h
theorem xC (h : ρ x = .pointer (some ⟨b, o, none⟩)) : Yl Try.prog ρ (.fieldAddr 111 x 11) d ty pos af g w (.pointer (some ⟨b, o + 11, none⟩)) := kX (k := 11) Try.underlying111 rfl rfl za (by decide) h
theorem wh (h : ρ x = .pointer (some ⟨b, o, none⟩)) : Yl Try.prog ρ (.fieldAddr 111 x 12) d ty pos af g w (.pointer (some ⟨b, o + 12, none⟩)) := kX (k := 12) Try.underlying111 rfl rfl za (by decide) h
theorem pG (h : ρ x = .pointer (some ⟨b, o, none⟩)) : Yl Try.prog ρ (.fieldAddr 115 x 0) d ty pos af g w (.pointer (some ⟨b, o, none⟩)) := qU Try.underlying115 rfl rfl vR (by decide) h
theorem Aa (h : ρ x = .pointer (some ⟨b, o, none⟩)) : Yl Try.prog ρ (.fieldAddr 115 x 1) d ty pos af g w (.pointer (some ⟨b, o + 4, none⟩)) := kX (k := 4) Try.underlying115 rfl rfl mP (by decide) h
theorem zW (h : ρ x = .pointer (some ⟨b, o, none⟩)) : Yl Try.prog ρ (.fieldAddr 115 x 2) d ty pos af g w (.pointer (some ⟨b, o + 5, none⟩)) := kX (k := 5) Try.underlying115 rfl rfl Aj (by decide) h
theorem Qe (h : ρ x = .pointer (some ⟨b, o, none⟩)) : Yl Try.prog ρ (.fieldAddr 115 x 3) d ty pos af g w (.pointer (some ⟨b, o + 6, none⟩)) := kX (k := 6) Try.underlying115 rfl rfl mP (by decide) h
theorem yX (h : ρ x = .pointer (some ⟨b, o, none⟩)) : Yl Try.prog ρ (.fieldAddr 115 x 4) d ty pos af g w (.pointer (some ⟨b, o + 7, none⟩)) := kX (k := 7) Try.underlying115 rfl rfl Ll (by decide) h
theorem Ir (h : ρ x = .pointer (some ⟨b, o, none⟩)) : Yl Try.prog ρ (.fieldAddr 127 x 0) d ty pos af g w (.pointer (some ⟨b, o, none⟩)) := qU Try.underlying127 rfl rfl nX (by decide) h
theorem Bt (h : ρ x = .pointer (some ⟨b, o, none⟩)) : Yl Try.prog ρ (.fieldAddr 127 x 1) d ty pos af g w (.pointer (some ⟨b, o + 1, none⟩)) := kX (k := 1) Try.underlying127 rfl rfl nV (by decide) h
theorem Md (h : ρ x = .pointer (some ⟨b, o, none⟩)) : Yl Try.prog ρ (.fieldAddr 132 x 0) d ty pos af g w (.pointer (some ⟨b, o, none⟩)) := qU Try.underlying132 rfl rfl Aj (by decide) h
theorem F6 (h : ρ x = .pointer (some ⟨b, o, none⟩)) : Yl Try.prog ρ (.fieldAddr 132 x 1) d ty pos af g w (.pointer (some ⟨b, o + 1, none⟩)) := kX (k := 1) Try.underlying132 rfl rfl mP (by decide) h
theorem oK (h : ρ x = .pointer (some ⟨b, o, none⟩)) : Yl Try.prog ρ (.fieldAddr 135 x 0) d ty pos af g w (.pointer (some ⟨b, o, none⟩)) := qU Try.underlying135 rfl rfl Xt (by decide) h
theorem Un (h : ρ x = .pointer (some ⟨b, o, none⟩)) : Yl Try.prog ρ (.fieldAddr 135 x 1) d ty pos af g w (.pointer (some ⟨b, o + 1, none⟩)) := kX (k := 1) Try.underlying135 rfl rfl mP (by decide) h
theorem LM (h : ρ x = .pointer (some ⟨b, o, none⟩)) : Yl Try.prog ρ (.fieldAddr 135 x 2) d ty pos af g w (.pointer (some ⟨b, o + 2, none⟩)) := kX (k := 2) Try.underlying135 rfl rfl mP (by decide) h
theorem Vl (h : ρ x = .pointer (some ⟨b, o, none⟩)) : Yl Try.prog ρ (.fieldAddr 135 x 3) d ty pos af g w (.pointer (some ⟨b, o + 3, none⟩)) := kX (k := 3) Try.underlying135 rfl rfl Aj (by decide) h
theorem mO (h : ρ x = .pointer (some ⟨b, o, none⟩)) : Yl Try.prog ρ (.fieldAddr 135 x 4) d ty pos af g w (.pointer (some ⟨b, o + 4, none⟩)) := kX (k := 4) Try.underlying135 rfl rfl nV (by decide) h
theorem pR (h : ρ x = .pointer (some ⟨b, o, none⟩)) : Yl Try.prog ρ (.fieldAddr 135 x 5) d ty pos af g w (.pointer (some ⟨b, o + 5, none⟩)) := kX (k := 5) Try.underlying135 rfl rfl nV (by decide) h
theorem qN (h : ρ x = .pointer (some ⟨b, o, none⟩)) : Yl Try.prog ρ (.fieldAddr 135 x 6) d ty pos af g w (.pointer (some ⟨b, o + 6, none⟩)) := kX (k := 6) Try.underlying135 rfl rfl nV (by decide) h
theorem Dy (h : ρ x = .pointer (some ⟨b, o, none⟩)) : Yl Try.prog ρ (.fieldAddr 135 x 7) d ty pos af g w (.pointer (some ⟨b, o + 7, none⟩)) := kX (k := 7) Try.underlying135 rfl rfl mP (by decide) h
theorem Mt (h : ρ x = .pointer (some ⟨b, o, none⟩)) : Yl Try.prog ρ (.fieldAddr 135 x 8) d ty pos af g w (.pointer (some ⟨b, o + 8, none⟩)) := kX (k := 8) Try.underlying135 rfl rfl mP (by decide) h
theorem z8 (h : ρ x = .pointer (some ⟨b, o, none⟩)) : Yl Try.prog ρ (.fieldAddr 138 x 0) d ty pos af g w (.pointer (some ⟨b, o, none⟩)) := qU Try.underlying138 rfl rfl mP (by decide) h
theorem IX (h : ρ x = .pointer (some ⟨b, o, none⟩)) : Yl Try.prog ρ (.fieldAddr 138 x 1) d ty pos af g w (.pointer (some ⟨b, o + 1, none⟩)) := kX (k := 1) Try.underlying138 rfl rfl mP (by decide) h
theorem UQ (h : ρ x = .pointer (some ⟨b, o, none⟩)) : Yl Try.prog ρ (.fieldAddr 138 x 2) d ty pos af g w (.pointer (some ⟨b, o + 2, none⟩)) := kX (k := 2) Try.underlying138 rfl rfl mP (by decide) h
theorem Jy (h : ρ x = .pointer (some ⟨b, o, none⟩)) : Yl Try.prog ρ (.fieldAddr 138 x 3) d ty pos af g w (.pointer (some ⟨b, o + 3, none⟩)) := kX (k := 3) Try.underlying138 rfl rfl nX (by decide) h
theorem Qo (h : ρ x = .pointer (some ⟨b, o, none⟩)) : Yl Try.prog ρ (.fieldAddr 138 x 4) d ty pos af g w (.pointer (some ⟨b, o + 4, none⟩)) := kX (k := 4) Try.underlying138 rfl rfl nX (by decide) h
theorem AP (h : ρ x = .pointer (some ⟨b, o, none⟩)) : Yl Try.prog ρ (.fieldAddr 138 x 5) d ty pos af g w (.pointer (some ⟨b, o + 5, none⟩)) := kX (k := 5) Try.underlying138 rfl rfl su (by decide) h
theorem LB (h : ρ x = .pointer (some ⟨b, o, none⟩)) : Yl Try.prog ρ (.fieldAddr 143 x 0) d ty pos af g w (.pointer (some ⟨b, o, none⟩)) := qU Try.underlying143 rfl rfl mP (by decide) h
theorem Io (h : ρ x = .pointer (some ⟨b, o, none⟩)) : Yl Try.prog ρ (.fieldAddr 143 x 1) d ty pos af g w (.pointer (some ⟨b, o + 1, none⟩)) := kX (k := 1) Try.underlying143 rfl rfl mP (by decide) h
theorem Il (h : ρ x = .pointer (some ⟨b, o, none⟩)) : Yl Try.prog ρ (.fieldAddr 143 x 2) d ty pos af g w (.pointer (some ⟨b, o + 2, none⟩)) := kX (k := 2) Try.underlying143 rfl rfl nX (by decide) h
theorem OY (h : ρ x = .pointer (some ⟨b, o, none⟩)) : Yl Try.prog ρ (.fieldAddr 143 x 3) d ty pos af g w (.pointer (some ⟨b, o + 3, none⟩)) := kX (k := 3) Try.underlying143 rfl rfl mP (by decide) h
theorem l3 {t : TypeId} {cs : Array Value} {v : Value} (h : ρ x = .pointer (some ⟨b, o, none⟩)) (hb : mI w b t cs) (hi : cs[o]? = some v) : Yl Try.prog ρ (.load 3 x) d ty pos af g w v := jP Try.underlying3 rfl h (hb.cell hi)
theorem l4 {t : TypeId} {cs : Array Value} {v : Value} (h : ρ x = .pointer (some ⟨b, o, none⟩)) (hb : mI w b t cs) (hi : cs[o]? = some v) : Yl Try.prog ρ (.load 4 x) d ty pos af g w v := jP Try.underlying4 rfl h (hb.cell hi)
theorem l9 {t : TypeId} {cs : Array Value} {v : Value} (h : ρ x = .pointer (some ⟨b, o, none⟩)) (hb : mI w b t cs) (hi : cs[o]? = some v) : Yl Try.prog ρ (.load 9 x) d ty pos af g w v := jP Try.underlying9 rfl h (hb.cell hi)
theorem QM {t : TypeId} {cs : Array Value} {v : Value} (h : ρ x = .pointer (some ⟨b, o, none⟩)) (hb : mI w b t cs) (hi : cs[o]? = some v) : Yl Try.prog ρ (.load 22 x) d ty pos af g w v := jP Try.underlying22 rfl h (hb.cell hi)
theorem Ta {t : TypeId} {cs : Array Value} {v : Value} (h : ρ x = .pointer (some ⟨b, o, none⟩)) (hb : mI w b t cs) (hi : cs[o]? = some v) : Yl Try.prog ρ (.load 23 x) d ty pos af g w v := jP Try.underlying23 rfl h (hb.cell hi)
theorem Oz {t : TypeId} {cs : Array Value} {v : Value} (h : ρ x = .pointer (some ⟨b, o, none⟩)) (hb : mI w b t cs) (hi : cs[o]? = some v) : Yl Try.prog ρ (.load 24 x) d ty pos af g w v := jP Try.underlying24 rfl h (hb.cell hi)
theorem MB {t : TypeId} {cs : Array Value} {v : Value} (h : ρ x = .pointer (some ⟨b, o, none⟩)) (hb : mI w b t cs) (hi : cs[o]? = some v) : Yl Try.prog ρ (.load 27 x) d ty pos af g w v := jP Try.underlying27 rfl h (hb.cell hi)
theorem UY {t : TypeId} {cs : Array Value} {v : Value} (h : ρ x = .pointer (some ⟨b, o, none⟩)) (hb : mI w b t cs) (hi : cs[o]? = some v) : Yl Try.prog ρ (.load 28 x) d ty pos af g w v := jP Try.underlying28 rfl h (hb.cell hi)
theorem BK {t : TypeId} {cs : Array Value} {v : Value} (h : ρ x = .pointer (some ⟨b, o, none⟩)) (hb : mI w b t cs) (hi : cs[o]? = some v) : Yl Try.prog ρ (.load 37 x) d ty pos af g w v := jP Try.underlying37 rfl h (hb.cell hi)
theorem l48 {t : TypeId} {cs : Array Value} {v : Value} (h : ρ x = .pointer (some ⟨b, o, none⟩)) (hb : mI w b t cs) (hi : cs[o]? = some v) : Yl Try.prog ρ (.load 48 x) d ty pos af g w v := jP Try.underlying48 rfl h (hb.cell hi)
theorem WR {t : TypeId} {cs : Array Value} {v : Value} (h : ρ x = .pointer (some ⟨b, o, none⟩)) (hb : mI w b t cs) (hi : cs[o]? = some v) : Yl Try.prog ρ (.load 51 x) d ty pos af g w v := jP Try.underlying51 rfl h (hb.cell hi)
theorem l55 {t : TypeId} {cs : Array Value} {v : Value} (h : ρ x = .pointer (some ⟨b, o, none⟩)) (hb : mI w b t cs) (hi : cs[o]? = some v) : Yl Try.prog ρ (.load 55 x) d ty pos af g w v := jP Try.underlying55 rfl h (hb.cell hi)
theorem zP {t : TypeId} {cs : Array Value} {v : Value} (h : ρ x = .pointer (some ⟨b, o, none⟩)) (hb : mI w b t cs) (hi : cs[o]? = some v) : Yl Try.prog ρ (.load 70 x) d ty pos af g w v := jP Try.underlying70 rfl h (hb.cell hi)
theorem NS {t : TypeId} {cs : Array Value} {v : Value} (h : ρ x = .pointer (some ⟨b, o, none⟩)) (hb : mI w b t cs) (hi : cs[o]? = some v) : Yl Try.prog ρ (.load 80 x) d ty pos af g w v := jP Try.underlying80 rfl h (hb.cell hi)
theorem Oy {t : TypeId} {cs : Array Value} {v : Value} (h : ρ x = .pointer (some ⟨b, o, none⟩)) (hb : mI w b t cs) (hi : cs[o]? = some v) : Yl Try.prog ρ (.load 97 x) d ty pos af g w v := jP Try.underlying97 rfl h (hb.cell hi)
theorem AV {t : TypeId} {cs : Array Value} {v : Value} (h : ρ x = .pointer (some ⟨b, o, none⟩)) (hb : mI w b t cs) (hi : cs[o]? = some v) : Yl Try.prog ρ (.load 109 x) d ty pos af g w v := jP Try.underlying109 rfl h (hb.cell hi)
theorem xG {t : TypeId} {cs : Array Value} {v : Value} (h : ρ x = .pointer (some ⟨b, o, none⟩)) (hb : mI w b t cs) (hi : cs[o]? = some v) : Yl Try.prog ρ (.load 130 x) d ty pos af g w v := jP Try.underlying130 rfl h (hb.cell hi)
end
section
variable {P : Program} {N:Fz} {ops : Array Oper} {f : Fr} {w w0 : World} {n : Nat} {K:KK} {Lb : Array Bool} {T : List Nat} {Y G : Nat → Prop} {L : List It} {D : List Da} {S1 S : World → Prop}
theorem pF (i : Nat) {oi : Oper} {v : Value} (hi : ops[i]? = some oi) (hy : ∀ {w : World}, (execOp (ev f) oi).run P w = .ok (.value v) w) (hs : S1 w)
 (k : rH P N ops S1 (fun _ => True) T K n (Lb.setIfInBounds i true) (kF f oi.dst v) w) (hw : sK ops f oi.guard = true := by exact rfl) (hc : may ops T Lb i = true := by kernel_rfl) : rH P N ops S1 (fun _ => True) T K (n + 1) Lb f w := tP i hi (fun _ => hy) (sF hs) k hw hc
theorem pL (i : Nat) {oi : Oper} {v : Value} (hi : ops[i]? = some oi) (hy : ∀ {w : World}, (execOp (ev f) oi).run P w = .ok (.value v) w) (hs : S1 w) (hu : S w)
 (k : rH P N ops S1 S T K n (Lb.setIfInBounds i true) (kF f oi.dst v) w) (hw : sK ops f oi.guard = true := by exact rfl) (hc : may ops T Lb i = true := by kernel_rfl) : rH P N ops S1 S T K (n + 1) Lb f w := tP i hi (fun _ => hy) (mF hs hu) k hw hc
theorem uF (i : Nat) {oi : Oper} {v : Value} (hi : ops[i]? = some oi) (hy : ∀ {w : World}, S1 w → (execOp (ev f) oi).run P w = .ok (.value v) w) (hs : S1 w)
 (k : rH P N ops S1 (fun _ => True) T K n (Lb.setIfInBounds i true) (kF f oi.dst v) w) (hw : sK ops f oi.guard = true := by exact rfl) (hc : may ops T Lb i = true := by kernel_rfl) : rH P N ops S1 (fun _ => True) T K (n + 1) Lb f w := tU i hi (fun _ => hy) (sF hs) k hw hc
theorem hO (i : Nat) (h : Au P N ops S1 S T K n Lb f w i) (hr : Region.ready .any ops Lb = [i] := by kernel_rfl) : rH P N ops S1 S T K (n + 1) Lb f w := Yz i hr h
theorem hD (h : K.n f w) (hr : Region.ready .any ops Lb = [] := by kernel_rfl) : rH P N ops S1 S T K n Lb f w := Vy hr h
theorem sy (t : Nat) (h1 : S1 w) (h : (T.contains t && Lb.getD t false) = true := by kernel_rfl) : DR S1 T S Lb w := OE t h1 h
theorem cf {g : FuncId} {fn : Func} {c : Code} {args : Array Value} {R : Value → World → Prop} (hf : P.funcs[g]? = some fn) (hb : fn.body = some c)
 (h : WP P (fn.ntmps,[]) c ⟨Reads P fn R, fun _ _ _ => False, Reads P fn R, fun _ _ _ => False⟩ (xP args) w) (hs : Nat.ble args.size fn.ntmps = true := by exact rfl) (hok : Cw (fn.ntmps,[]) c = true := by kernel_rfl) : Calls P g args w (qQ R) := QB hf hb (Nat.le_of_ble_eq_true hs) hok h
end
end
end Go.Proofs.Ytfglbdkfnphjgaa
namespace Go.Fw
theorem Bx.ad {w0 w : World} {Y G : Nat → Prop} {L : List It} {D : List Da} (h : Bx w0 w Y G L D) (l m : List Nat) (hn : nodup l = true := by exact rfl) : Bx w0 w Y G (pick L l) (pick D m) := (h.arr l hn).dp m
theorem Bx.le {w0 w : World} {Y G : Nat → Prop} {L : List It} {D : List Da} {e : Nat} (h : Bx w0 w Y G L D) (k : e ≤ w0.heap.size) : e ≤ w.heap.size := Nat.le_trans k h.qW.size
theorem lX {α β γ:Type} {o:Option (α × β)} {f:α→β→Option γ} {X:γ} (h:(o.bind fun x=>jy x f)=some X):∃ a b,o=some (a,b)∧f a b=some X:=by
 obtain ⟨⟨a,b⟩,h1,h2⟩:=bs h
 exact ⟨a,b,h1,h2⟩
theorem vB {α β γ δ:Type} {o:Option (α × β × γ)} {f:α→β→γ→Option δ} {X:δ} (h:(o.bind fun x=>jy x fun a y=>jy y (f a))=some X):∃ a b c,o=some (a,b,c)∧f a b c=some X:=by
 obtain ⟨⟨a,b,c⟩,h1,h2⟩:=bs h
 exact ⟨a,b,c,h1,h2⟩
theorem YU {α β γ δ ε:Type} {o:Option (α × β × γ × δ)} {f:α→β→γ→δ→Option ε} {X:ε} (h:(o.bind fun x=>jy x fun a y=>jy y fun b z=>jy z (f a b))=some X):∃ a b c d,o=some (a,b,c,d)∧f a b c d=some X:=by
 obtain ⟨⟨a,b,c,d⟩,h1,h2⟩:=bs h
 exact ⟨a,b,c,d,h1,h2⟩
theorem AZ {α β γ δ:Type} {a:α} {b:β} {c:γ} {f:α→β→γ→δ} {X:δ} (h:jy (a,b,c) (fun x y=>jy y (f x))=X):f a b c=X:=h
theorem mE {α β γ ε δ:Type} {a:α} {b:β} {c:γ} {d:ε} {f:α→β→γ→ε→δ} {X:δ} (h:jy (a,b,c,d) (fun x y=>jy y fun u v=>jy v (f x u))=X):f a b c d=X:=h
section
variable {P:Program} {N:Fz} {ops:Array Oper} {K:KK} {rest:List Oper} {f:Fr} {w w0:World} {d:Option Nat} {op:Op} {ty:TypeId} {pos:String} {af:Array Edge} {Z G:Nat→Prop} {L:List It} {D:List Da}
theorem sV (h:Bx w0 w Z G L D) {t:TypeId} {cs:Array Value} (e:(execOp (ev f) ⟨d,op,ty,pos,af,none⟩).run P w=.ok (.value (.pointer (some ⟨w.heap.size,0,none⟩))) (w.alloc (.cells cs t))) (k:∀ w' b,Bx w0 w' Z G (.box b t cs :: L) D→kM P N ops K rest (kF f d (.pointer (some ⟨b,0,none⟩))) w'):kM P N ops K (⟨d,op,ty,pos,af,none⟩ :: rest) f w:=nM (nD h e) (by rintro _ w' ⟨b,rfl,h⟩;exact k w' b h)
end
def spl:List Value→Nat→List Value→List Value
 | [],_,_=>[]
 | a :: l,0,[]=>a :: l
 | _ :: l,0,v :: m=>v :: spl l 0 m
 | a :: l,n+1,m=>a :: spl l n m
theorem MG:∀ (l:List Value) (o:Nat) (m:List Value),o+m.length≤l.length→spl l o m=l.take o ++ m ++ l.drop (o+m.length)
 | [],o,m,h=>by
  have h1:m=[]:=List.length_eq_zero_iff.1 (by simp only [List.length_nil] at h;omega)
  subst h1;simp [spl]
 | a :: l,0,[],_=>by simp [spl]
 | a :: l,0,v :: m,h=>by
  have:=MG l 0 m (by simp only [List.length_cons] at h;omega)
  simp only [spl,this];simp
 | a :: l,n+1,m,h=>by
  have:=MG l n m (by simp only [List.length_cons] at h;omega)
  rw [spl,this,show n+1+m.length=(n+m.length)+1 by omega];simp
section
variable {P:Program} {ρ:Operand→Value} {w w' w0:World} {d:Option Nat} {ty:TypeId} {pos:String} {af:Array Edge} {g:Option (Nat × Bool)} {Z G:Nat→Prop} {L L' L1 Lc:List It} {D D' D1:List Da}
theorem nU (hL:Bx w0 w Z G L D) (i:Nat) {t te:TypeId} {x y:Operand} {z:Value} {s by_ b:Nat} {old:Array Value} (vs:List Value) (hi:L[i]?=some (.box b te old)) (ht:TI P t z s by_)
  (hx:ρ x=.pointer (some ⟨b,0,none⟩)) (hy:(ρ y).cells=vs.toArray) (e:L.set i (.box b te vs.toArray)=L':=by (try dsimp only [List.set]);all_goals exact rfl) (hs:s=vs.length:=by exact rfl) (h1:vs.all (fun v=>v.oneCell')=true:=by exact rfl) (hl:Nat.beq vs.length old.size=true:=by exact rfl) :
  QI P ρ ⟨d,.store t x y,ty,pos,af,g⟩ w fun w'=>Bx w0 w' Z G L' D:=by
 have h:=Nat.eq_of_beq_eq_true hl
 subst e
 refine RY hL i vs hi ht hs hx hy h1 (Nat.ble_eq_true_of_le (by rw [Nat.zero_add,h];exact Nat.le_refl _)) ?_
 rw [Nat.zero_add,List.take_zero,List.nil_append,List.drop_eq_nil_of_le (by rw [h];simp),List.append_nil]
theorem t_n (hL:Bx w0 w Z G L D) (i:Nat) {t te:TypeId} {x y:Operand} {z:Value} {s by_ b o:Nat} {old cs':List Value} (vs:List Value) (hi:L[i]?=some (.box b te old.toArray)) (ht:TI P t z s by_)
  (hx:ρ x=.pointer (some ⟨b,o,none⟩)) (hy:(ρ y).cells=vs.toArray) (hc:spl old o vs=cs':=by (try dsimp only [spl]);all_goals exact rfl) (e:L.set i (.box b te cs'.toArray)=L':=by (try dsimp only [List.set]);all_goals exact rfl) (hs:s=vs.length:=by exact rfl) (h1:vs.all (fun v=>v.oneCell')=true:=by exact rfl) (hl:Nat.ble (o+vs.length) old.length=true:=by exact rfl) :
  QI P ρ ⟨d,.store t x y,ty,pos,af,g⟩ w fun w'=>Bx w0 w' Z G L' D:=by
 have h:=Nat.le_of_ble_eq_true hl
 subst e hc
 refine RY hL i vs hi ht hs hx hy h1 (Nat.ble_eq_true_of_le (by simpa using h)) ?_
 rw [MG _ _ _ h]
theorem Bx.cn (h:Bx w0 w Z G L D) (i r:List Nat) (k:Bx w w' (Cx w0 Z (pick L i ++ pick L r)) (lS Lc) L1 D1) (hL:L1 ++ pick L r=L':=by (try dsimp only [pick,nth,List.cons_append,List.nil_append]);all_goals exact rfl) (hD:D1 ++ D=D':=by (try dsimp only [List.cons_append,List.nil_append]);all_goals exact rfl) (e:pick L i=Lc:=by exact rfl) (hn:nodup (i ++ r)=true:=by exact rfl):Bx w0 w' Z G L' D':=by
 subst hL hD
 exact h.cl i r hn k e
theorem Bx.fz (h:Bx w0 w Z G L D) (i j:Nat) {α:Type} [Rp α] {e:TypeId} {A:Option Addr} {c:Nat} {cs:List (List Value)} {l:List α} (hi:L[i]?=some (.own w0.heap.size A c e (Rp.sz α) cs)) (hj:D[j]?=some (.els cs l)) (hL:L.eraseIdx i=L':=by (try dsimp only [List.eraseIdx]);all_goals exact rfl) (hD:D.eraseIdx j=D':=by (try dsimp only [List.eraseIdx]);all_goals exact rfl) :
  Bx w0 w Z G L' (.l A c l :: D'):=by
 subst hL hD
 exact h.OB i j hi hj
theorem Bx.rb (h:Bx w0 w Z G L D) (i:Nat) {base:Nat} {A:Option Addr} {c sz:Nat} {e:TypeId} {cs:List (List Value)} (base':Nat) (hi:L[i]?=some (.own base A c e sz cs)) (hb:base'≤base) (hL:L.set i (.own base' A c e sz cs)=L':=by (try dsimp only [List.set]);all_goals exact rfl):Bx w0 w Z G L' D:=by
 subst hL
 exact h.Xr i base' hi hb
theorem YG {t:TypeId} {x:Operand} {T:TypeDesc} {z:Value} {s by_:Nat} {α:Type} [Rp α] {F:Nat→Prop} {a:Option Addr} {c:Nat} {l:List α} {k:Nat} {y:α} (cs:List Value) (hu:P.underlying t=some T) (hi:TI P t z s by_)
 (hx:ρ x=.pointer (some ⟨nN a,oU a+k * Rp.sz α,none⟩)) (h:kK F w a c l) (hy:l[k]?=some y) (hD:LD T=true:=by exact rfl) (hs:s=cs.length:=by exact rfl) (hr:∀ ds,Rp.rep F w ds y→ds=cs:=by exact fun _ h=>h):Yl P ρ (.load t x) d ty pos af g w (.agg cs.toArray):=mR cs hu hD hi hs hx (uK h hy hr)
theorem ng {t te:TypeId} {x:Operand} {T:TypeDesc} {z:Value} {s by_ b:Nat} {old:Array Value} (cs:List Value) (hu:P.underlying t=some T) (hi:TI P t z s by_)
 (hx:ρ x=.pointer (some ⟨b,0,none⟩)) (h:mI w b te old) (hD:LD T=true:=by exact rfl) (hs:s=cs.length:=by exact rfl) (hr:(old.toList.drop 0).take cs.length=cs:=by exact rfl):Yl P ρ (.load t x) d ty pos af g w (.agg cs.toArray):=mR cs hu hD hi hs hx (Cells.part h.cells (o2:=0) hr)
end
end Go.Fw
set_option linter.unusedVariables false
namespace Go.Fw
open Go.RowKit
def RP (R:Value→World→Prop) (V:List PanicEntry→World→Prop):Ending→World→Prop
 | .returned v,w=>R v w
 | .panicked c,w=>V c w
 | .outgrown,_=>False
def Yn (v:Value) (c:List PanicEntry):Prop:=∃ l:List PanicEntry,c=⟨v,false,false⟩ :: l∧∀ e ∈ l,e.goexit=false
theorem xH (v:Value):Yn v [⟨v,false,false⟩]:=⟨[],rfl,fun _ h=>by cases h⟩
section
variable {P:Program} {N:Fz} {ops:Array Oper} {K:KK} {rest:List Oper} {f:Fr} {w:World} {d:Option Nat} {op:Op} {ty:TypeId} {pos:String} {af:Array Edge}
theorem IB {w':World} {g:FuncId} {args:Array Value} {R:Value→World→Prop} {V:List PanicEntry→World→Prop}
  (h:(execOp (ev f) ⟨d,op,ty,pos,af,none⟩).run P w=.ok (.enter g args) w') (hc:Calls P g args w' (RP R V))
  (kp:∀ c w'',V c w''→K.p f c w'') (k:∀ v w'',R v w''→kM P N ops K rest (kF f d v) w'') :
  kM P N ops K (⟨d,op,ty,pos,af,none⟩ :: rest) f w:=by
 unfold kM
 intro hok a ha
 have h1:=hok _ (List.mem_cons_self ..)
 refine wpList_plain rfl fun K' hK=>?_
 unfold Oper.wp
 rw [ha.xD,h]
 refine hc.mono fun e w'' he=>?_
 cases e with
 | returned v=>
  have:=k v w'' he
  unfold kM at this
  exact hK _ _ (this (fun o ho=>hok o (List.mem_cons_of_mem _ ho)) _ (ha.put d (qG h1) v))
 | panicked c=>exact ⟨f,ha,kp c w'' he⟩
 | outgrown=>exact he.elim
theorem TJ {w':World} {v:Value} (h:(execOp (ev f) ⟨d,op,ty,pos,af,none⟩).run P w=.halt (.panic v) w') (kp:K.p f [⟨v,false,false⟩] w') :
  kM P N ops K (⟨d,op,ty,pos,af,none⟩ :: rest) f w:=by
 unfold kM
 intro hok a ha
 refine wpList_plain rfl fun K' hK=>?_
 unfold Oper.wp
 rw [ha.xD,h]
 exact ⟨f,ha,kp⟩
theorem Ad {x:Operand} {t:TypeId} {v:Value} (hx:ev f x=.iface t v) (kp:K.p f [⟨.iface t v,false,false⟩] w):kM P N ops K (⟨d,.panic x,ty,pos,af,none⟩ :: rest) f w:=
 TJ (v:=.iface t v) (by simp [execOp,hx,Instr.panic,goPanic]) kp
end
section
variable {P:Program} {w:World} {ρ:Operand→Value} {d:Option Nat} {ty:TypeId} {pos:String} {af:Array Edge} {g:Option (Nat × Bool)}
def Rt (P:Program) (ρ:Operand→Value) (o:Oper) (w:World):Prop:=∃ w' v,(execOp ρ o).run P w=.halt (.panic (.iface P.rt.boundsError v)) w'∧(w'=w ∨ w'=w.drew)
theorem MX {t e:TypeId} {x y:Operand} {n c:Nat} {k:IntKind} {i:Int} (ht:P.underlying t=some (.slice e)) {a:Option Addr} (hx:ρ x=.slice a n c)
  (hy:ρ y=.int k i) (hi:¬ (0≤i∧i < n)):Rt P ρ ⟨d,.indexAddr t x y,ty,pos,af,g⟩ w:=by
 have hb:∀ m:Int,∃ w' v,(boundsPanic (α:=Value) k i m .index).run P w=.halt (.panic (.iface P.rt.boundsError v)) w'∧(w'=w ∨ w'=w.drew):=fun m=>by
  unfold boundsPanic
  by_cases h:(k != .u64 && decide (0≤i) && decide (i≤31))=true
  · refine ⟨w.drew,?_⟩
    simp [h,runtimePanic,goPanic,Question.forced]
  · refine ⟨w,?_⟩
    simp [h,runtimePanic,goPanic]
 have h2:(execOp ρ ⟨d,.indexAddr t x y,ty,pos,af,g⟩).run P w=((boundsPanic (α:=Value) k i (if a=none then 0 else n) .index).run P w).andThen fun v w=>.ok (.value v) w:=by
  cases a with
  | none=>simp [execOp,hx,hy,Instr.indexAt,run_underlying ht,asIntOf]
  | some a=>simp [execOp,hx,hy,Instr.indexAt,run_underlying ht,asIntOf,hi]
 obtain ⟨w',v,h3,h4⟩:=hb (if a=none then 0 else n)
 exact ⟨w',v,by rw [h2,h3];rfl,h4⟩
end
section
variable {P:Program} {N:Fz} {ops:Array Oper} {S1 S:World→Prop} {T:List Nat} {K:KK} {f:Fr} {w:World} {n:Nat} {L:Array Bool}
theorem QD {i:Nat} {oi:Oper} {w':World} {g:FuncId} {args:Array Value} {R:Value→World→Prop} {V:List PanicEntry→World→Prop} (hi:ops[i]?=some oi) (hw:sK ops f oi.guard=true)
  (h:(execOp (ev f) oi).run P w=.ok (.enter g args) w') (hc:Calls P g args w' (RP R V)) (kp:∀ c w'',V c w''→∀ f,K.p f c w'')
  (k:∀ v w'',R v w''→DR S1 T S (L.setIfInBounds i true) w''∧rH P N ops S1 S T K n (L.setIfInBounds i true) (kF f oi.dst v) w''):Au P N ops S1 S T K n L f w i:=by
 unfold Au
 intro hok hcl a ha
 have hd:uW N oi=true:=hok oi (by have:=Array.mem_of_getElem? hi;simpa using this)
 unfold wpOp
 simp only [hi]
 rw [if_pos (by rw [tK ha];exact hw)]
 left
 unfold Oper.wp
 rw [ha.xD,h]
 refine hc.mono fun e w'' he=>?_
 cases e with
 | returned v=>
  have h2:=(k v w'' he).2
  unfold rH at h2
  exact ⟨(k v w'' he).1,h2 hok hcl _ (ha.put _ (qG hd) v)⟩
 | panicked c=>exact ⟨f,ha,kp c w'' he⟩
 | outgrown=>exact he.elim
theorem Ug {i:Nat} {oi:Oper} {w':World} {v:Value} (hi:ops[i]?=some oi) (hw:sK ops f oi.guard=true)
  (h:(execOp (ev f) oi).run P w=.halt (.panic v) w') (kp:∀ f,K.p f [⟨v,false,false⟩] w'):Au P N ops S1 S T K n L f w i:=by
 unfold Au
 intro hok hcl a ha
 unfold wpOp
 simp only [hi]
 rw [if_pos (by rw [tK ha];exact hw)]
 left
 unfold Oper.wp
 rw [ha.xD,h]
 exact ⟨f,ha,kp⟩
end
section
variable {P:Program} {N:Fz}
theorem vU {g:FuncId} {fn:Func} {c:Code} {args:Array Value} {w:World} {R:Value→World→Prop} {V:List PanicEntry→World→Prop}
   (hf:P.funcs[g]?=some fn) (hb:fn.body=some c)
   (h:WP P (fn.ntmps,[]) c ⟨Reads P fn R,fun _ _ _=>False,Reads P fn R,fun _ c w=>V c w⟩ (xP args) w)
   (hs:Nat.ble args.size fn.ntmps=true:=by exact rfl) (hok:Cw (fn.ntmps,[]) c=true:=by kernel_rfl):Calls P g args w (RP R V):=by
 have hs:=Nat.le_of_ble_eq_true hs
 unfold WP at h
 refine calls_of_wp hf hb (Code.wp_mono (fun e a w q=>?_) (h hok _ ⟨by simp;omega,fun t=>?_,rfl⟩))
 · cases e with
   | normal=>
     obtain ⟨f,h1,h2⟩:=q
     unfold Reads at h2
     obtain ⟨v,hv,hR⟩:=h2 a.tmps h1.get
     exact ⟨h1.dfr,v,hv,hR⟩
   | ret=>
     obtain ⟨f,h1,h2⟩:=q
     unfold Reads at h2
     obtain ⟨v,hv,hR⟩:=h2 a.tmps h1.get
     exact ⟨h1.dfr,v,hv,hR⟩
   | exit i=>obtain ⟨f,h1,h2⟩:=q;exact h2.elim
   | panic c=>obtain ⟨f,h1,h2⟩:=q;exact ⟨h1.dfr,h2⟩
   | _=>exact q.elim
 · unfold xP
   simp only [Array.getD_eq_getD_getElem?]
   rw [Array.getElem?_append]
   split
   · rfl
   · rename_i hlt
     rw [Array.getElem?_replicate]
     split
     · rw [Array.getElem?_eq_none (by omega)];rfl
     · rw [Array.getElem?_eq_none (by omega)]
theorem AL {args:Array Value} {n:Nat} (hs:args.size≤n):BX (n,[]) (xP args) { tmps:=args ++ Array.replicate (n - args.size) undef,defers:=[] }:=by
 refine ⟨by simp;omega,fun t=>?_,rfl⟩
 unfold xP
 simp only [Array.getD_eq_getD_getElem?]
 rw [Array.getElem?_append]
 split
 · rfl
 · rename_i hlt
   rw [Array.getElem?_replicate]
   split
   · rw [Array.getElem?_eq_none (by omega)];rfl
   · rw [Array.getElem?_eq_none (by omega)]
def Ls (P:Program) (N:Fz) (c:Code) (Q:Exit→Act→World→Prop) (f:Fr) (w:World):Prop:=Cw N c=true→∀ a,BX N f a→c.wp P Q a w
theorem SV {c:Code} {Q:Post} {Q':Exit→Act→World→Prop} {f:Fr} {w:World} (h:WP P N c Q f w) (k:∀ e a w,lift N Q e a w→Q' e a w):Ls P N c Q' f w:=fun hok a ha=>by
 unfold WP at h
 exact Code.wp_mono (fun e a w q=>k e a w q) (h hok a ha)
theorem Ve {x y:Code} {Q:Exit→Act→World→Prop} {X:Nat→Fr→World→Prop} {R:Fr→World→Prop} {V:Fr→List PanicEntry→World→Prop} {f:Fr} {w:World}
  (h:WP P N x ⟨fun f w=>Ls P N y Q f w,X,R,V⟩ f w) (k:∀ e a w,lift N ⟨fun _ _=>False,X,R,V⟩ e a w→Q e a w):Ls P N (.seq x y) Q f w:=fun hok a ha=>by
 unfold WP at h
 simp only [Cw,Bool.and_eq_true] at hok
 refine wp_seq (Code.wp_mono (fun e a w q=>?_) (h hok.1 a ha))
 cases e with
 | normal=>obtain ⟨f,h1,h2⟩:=q;exact h2 hok.2 a h1
 | _=>exact k _ a w q
theorem zh {n:Nat} {d e:List Deferred}:∀ (c:Code),Cw (n,d) c=true→Cw (n,e) c=true
 | .region _ _ _,h=>h
 | .seq a b,h=>by
  simp only [Cw,Bool.and_eq_true] at h ⊢
  exact ⟨zh a h.1,zh b h.2⟩
 | .cond _ a b,h=>by
  simp only [Cw,Bool.and_eq_true] at h ⊢
  exact ⟨zh a h.1,zh b h.2⟩
 | .block _ c,h=>zh c h
 | .loop c,h=>zh c h
 | .scope c,h=>zh c h
 | .skip,_=>rfl
 | .ret,_=>rfl
 | .exit _,_=>rfl
 | .rangeFunc _ _ _ _,_=>rfl
 | .label _,_=>rfl
 | .goto _,_=>rfl
 | .refuse _,_=>rfl
theorem O5 {i:Nat} {o1 o2:Oper} {y:Code} {Q:Exit→Act→World→Prop} {f:Fr} {w:World} {v:Value} {d:Deferred}
  (e1:(execOp (ev f) o1).run P w=.ok (.value v) w) (e2:(execOp (ev (kF f o1.dst v)) o2).run P w=.ok (.defer d) w)
  (k:Ls P (N.1,d :: N.2) y Q (kF f o1.dst v) w) (h1:o1.guard=none:=by rfl) (h2:o2.guard=none:=by rfl) (h3:o2.dst=none:=by rfl) :
  Ls P N (.seq (.region i #[o1,o2] false) y) Q f w:=fun hok a ha=>by
 simp only [Cw,Bool.and_eq_true] at hok
 have hd1:uW N o1=true:=by have:=hok.1;simp at this;exact this.1
 have hp:=ha.put o1.dst (qG hd1) v
 refine wp_seq (wp_region_lit (l:=[o1,o2]) ?_)
 refine wpList_plain h1 fun K1 hK1=>?_
 unfold Oper.wp
 rw [ha.xD,e1]
 refine hK1 _ _ (wpList_plain h2 fun K2 hK2=>?_)
 unfold Oper.wp
 rw [hp.xD,e2]
 refine hK2 _ _ (wpList_nil ?_)
 rw [h3]
 refine k (zh y hok.2) _ ⟨hp.size,hp.get,?_⟩
 show d :: (a.put o1.dst v).defers=d :: N.2
 rw [hp.dfr]
theorem HZ {g:FuncId} {fn:Func} {c:Code} {args:Array Value} {w:World} {R:Ending→World→Prop}
  (hf:P.funcs[g]?=some fn) (hb:fn.body=some c) (h:Ls P (fn.ntmps,[]) c (bodyPostD P fn R) (xP args) w)
  (hs:Nat.ble args.size fn.ntmps=true:=by exact rfl) (hok:Cw (fn.ntmps,[]) c=true:=by kernel_rfl):Calls P g args w R:=
 calls_of_wp_defers hf hb (h hok _ (AL (Nat.le_of_ble_eq_true hs)))
def AA:FrameMode→Value × FrameMode
 | .panicking (⟨v,false,false⟩ :: l)=>(v,.panicking (⟨v,true,false⟩ :: l))
 | m=>(.nilIface,m)
def RD (u:FrameMode) (R:World→Prop) (V:List PanicEntry→World→Prop):Ending→FrameMode→World→Prop
 | .returned _,u',w=>u'=u∧R w
 | .panicked c,u',w=>u'=u∧V c w
 | .outgrown,_,_=>False
theorem Xm {i:Nat} {o:Oper} {Q:Exit→Act→List Frame→World→Prop} {a:Act} {c:Frame} {cs:List Frame} {w:World} (hg:o.guard=none) (he:(execOp a.eval o).run P w=.ok .recover w)
  (k:Q .normal (a.put o.dst (AA c.mode).1) ({ c with mode:=(AA c.mode).2 } :: cs) w):(Code.region i #[o] false).wpS P Q a (c :: cs) w:=by
 refine wpS_region ?_
 show wpOpsS P #[o] Q [0] a (c :: cs) w
 simp only [wpOpsS,List.getElem?_toArray,List.getElem?_cons_zero,Region.wanted,hg,if_true,he]
 have e:∀ m,c.mode=m→({ c with mode:=m }:Frame)=c:=fun m h=>by subst h;rfl
 cases hm:c.mode with
 | panicking l=>
  cases l with
  | nil=>simp only [recoverD,hm];rw [hm] at k;simp only [AA] at k;rw [e _ hm] at k;exact k
  | cons e l=>
   obtain ⟨v,r,g⟩:=e
   cases r <;> cases g <;> simp only [recoverD,hm] <;> (rw [hm] at k;simp only [AA] at k;first | exact k | (rw [e _ hm] at k;exact k))
 | _=>simp only [recoverD,hm];rw [hm] at k;simp only [AA] at k;rw [e _ hm] at k;exact k
theorem DC {g:FuncId} {fn:Func} {i:Nat} {o:Oper} {y:Code} {args:Array Value} {u:FrameMode} {w:World} {R:World→Prop} {V:List PanicEntry→World→Prop}
  (hf:P.funcs[g]?=some fn) (hb:fn.body=some (.seq (.region i #[o] false) y)) (hr:fn.results=#[]) (he:(execOp (ev (xP args)) o).run P w=.ok .recover w)
  (h:WP P (fn.ntmps,[]) y ⟨fun _ w=>R w,fun _ _ _=>False,fun _ w=>R w,fun _ c w=>V c w⟩ (kF (xP args) o.dst (AA u).1) w)
  (hg:o.guard=none:=by rfl) (hs:Nat.ble args.size fn.ntmps=true:=by exact rfl) (hok:Cw (fn.ntmps,[]) (.seq (.region i #[o] false) y)=true:=by kernel_rfl) :
  CallsD P g args u w (RD (AA u).2 R V):=by
 refine callsD_of_wpS hf hb fun c cs hu=>?_
 subst hu
 simp only [Cw,Bool.and_eq_true] at hok
 have ha:=AL (Nat.le_of_ble_eq_true hs)
 have hd1:uW (fn.ntmps,[]) o=true:=by have:=hok.1;simp at this;exact this
 refine wpS_seq (Xm hg (by rw [ha.xD];exact he) (wpS_of_wp ?_))
 unfold WP at h
 refine Code.wp_mono (fun e a w q=>?_) (h hok.2 _ (ha.put o.dst (qG hd1) _))
 cases e with
 | normal=>obtain ⟨f,h1,h2⟩:=q;exact ⟨h1.dfr,_,rfl,_,results_none hr _ P w,rfl,h2⟩
 | ret=>obtain ⟨f,h1,h2⟩:=q;exact ⟨h1.dfr,_,rfl,_,results_none hr _ P w,rfl,h2⟩
 | panic c=>obtain ⟨f,h1,h2⟩:=q;exact ⟨h1.dfr,_,rfl,rfl,h2⟩
 | exit i=>obtain ⟨f,h1,h2⟩:=q;exact h2.elim
 | _=>exact q.elim
theorem L6 {g:FuncId} {fn:Func} {i:Nat} {o:Oper} {y z:Code} {args:Array Value} {u:FrameMode} {w:World} {R:World→Prop} {V:List PanicEntry→World→Prop}
  (hf:P.funcs[g]?=some fn) (hb:fn.body=some (.seq (.seq (.region i #[o] false) y) z)) (hr:fn.results=#[]) (he:(execOp (ev (xP args)) o).run P w=.ok .recover w)
  (h:WP P (fn.ntmps,[]) y ⟨fun f w=>WP P (fn.ntmps,[]) z ⟨fun _ w=>R w,fun _ _ _=>False,fun _ w=>R w,fun _ c w=>V c w⟩ f w,fun _ _ _=>False,fun _ w=>R w,fun _ c w=>V c w⟩ (kF (xP args) o.dst (AA u).1) w)
  (hg:o.guard=none:=by rfl) (hs:Nat.ble args.size fn.ntmps=true:=by exact rfl) (hok:Cw (fn.ntmps,[]) (.seq (.seq (.region i #[o] false) y) z)=true:=by kernel_rfl) :
  CallsD P g args u w (RD (AA u).2 R V):=by
 refine callsD_of_wpS hf hb fun c cs hu=>?_
 subst hu
 simp only [Cw,Bool.and_eq_true] at hok
 have ha:=AL (Nat.le_of_ble_eq_true hs)
 have hd1:uW (fn.ntmps,[]) o=true:=by have:=hok.1.1;simp at this;exact this
 refine wpS_seq (wpS_seq (Xm hg (by rw [ha.xD];exact he) (wpS_of_wp ?_)))
 unfold WP at h
 have fin:∀ (e:Exit) (a:Act) (w:World),lift (fn.ntmps,[]) ⟨fun _ w=>R w,fun _ _ _=>False,fun _ w=>R w,fun _ c w=>V c w⟩ e a w→bodyPostS P fn c cs (RD (AA c.mode).2 R V) e a ({ c with mode:=(AA c.mode).2 } :: cs) w:=fun e a w q=>by
  cases e with
  | normal=>obtain ⟨f,h1,h2⟩:=q;exact ⟨h1.dfr,_,rfl,_,results_none hr _ P w,rfl,h2⟩
  | ret=>obtain ⟨f,h1,h2⟩:=q;exact ⟨h1.dfr,_,rfl,_,results_none hr _ P w,rfl,h2⟩
  | panic c=>obtain ⟨f,h1,h2⟩:=q;exact ⟨h1.dfr,_,rfl,rfl,h2⟩
  | exit i=>obtain ⟨f,h1,h2⟩:=q;exact h2.elim
  | _=>exact q.elim
 refine Code.wp_mono (fun e a w q=>?_) (h hok.1.2 _ (ha.put o.dst (qG hd1) _))
 cases e with
 | normal=>
  obtain ⟨f,h1,h2⟩:=q
  exact wpS_of_wp (Code.wp_mono (fun e a w q=>fin e a w q) (h2 hok.2 _ h1))
 | ret=>exact fin .ret a w q
 | panic c=>exact fin (.panic c) a w q
 | exit i=>obtain ⟨f,h1,h2⟩:=q;exact h2.elim
 | _=>exact q.elim
end
end Go.Fw
set_option linter.unusedVariables false
namespace Go.Proofs.Ytfglbdkfnphjgaa
open Go.RowKit Go.Fw
def Ep (f:BitVec 64→BitVec 64→BitVec 64) (a b:Int):Int:=wr (f (BitVec.ofInt 64 a) (BitVec.ofInt 64 b)).toNat
section
variable {P:Program} {w:World} {ρ:Operand→Value} {d:Option Nat} {ty:TypeId} {pos:String} {af:Array Edge} {g:Option (Nat × Bool)} {t t':TypeId} {x y:Operand} {a b:Int}
theorem YP (hx:ρ x=V a) (hy:ρ y=V b):Yl P ρ (.binOp .and t x y t') d ty pos af g w (V (Ep (· &&& ·) a b)):=by
 have h:Op.intBits .and .i64 a b=pure (V (Ep (· &&& ·) a b)):=rfl
 simp [Yl,execOp,hx,hy,binOp,eqGuard,h]
theorem ZX (hx:ρ x=V a) (hy:ρ y=V b):Yl P ρ (.binOp .or t x y t') d ty pos af g w (V (Ep (· ||| ·) a b)):=by
 have h:Op.intBits .or .i64 a b=pure (V (Ep (· ||| ·) a b)):=rfl
 simp [Yl,execOp,hx,hy,binOp,eqGuard,h]
theorem Yf (hx:ρ x=V a) (hy:ρ y=V b):Yl P ρ (.binOp .xor t x y t') d ty pos af g w (V (Ep (· ^^^ ·) a b)):=by
 have h:Op.intBits .xor .i64 a b=pure (V (Ep (· ^^^ ·) a b)):=rfl
 simp [Yl,execOp,hx,hy,binOp,eqGuard,h]
theorem Xj (hx:ρ x=V a):Yl P ρ (.unOp .neg t x) d ty pos af g w (V (wr (0 - a))):=by
 simp [Yl,execOp,hx,Op.unary,Op.intArith,wr]
theorem Iy {v:Value} (h:∃ D,P.underlying t=some D∧(match D with | .interface _=>false | _=>true)=true) (hx:ρ x=v):Yl P ρ (.makeInterface t x) d ty pos af g w (.iface t v):=by
 obtain ⟨D,h1,h2⟩:=h
 cases D <;> simp_all [Yl,execOp,Instr.makeInterface,run_underlying h1]
end
section
variable {P:Program} {N:Fz} {ops:Array Oper} {K:KK} {rest:List Oper} {f:Fr} {w:World} {d:Option Nat} {ty:TypeId} {pos:String} {af:Array Edge}
theorem Xc {op:Op} {g:Nat × Bool} (h:sK ops f (some g)=true) (k:kM P N ops K (⟨d,op,ty,pos,af,none⟩ :: rest) f w):kM P N ops K (⟨d,op,ty,pos,af,some g⟩ :: rest) f w:=ku h k
theorem Xz {op:Op} {g:Nat × Bool} (h:sK ops f (some g)=false) (k:kM P N ops K rest (kF f d undef) w):kM P N ops K (⟨d,op,ty,pos,af,some g⟩ :: rest) f w:=jL h k
theorem Yv {x:Operand} {p:Option Addr} (h:ev f x=.pointer p) (k:kM P N ops K rest (kF f d (.pointer p)) w):kM P N ops K (⟨d,(.move x),ty,pos,af,none⟩ :: rest) f w:=jS (vQ h) k
theorem Xk {x:Operand} {n:Int} (h:ev f x=V n) (k:kM P N ops K rest (kF f d (V n)) w):kM P N ops K (⟨d,(.move x),ty,pos,af,none⟩ :: rest) f w:=jS (Ma h) k
theorem Xg {x:Operand} {p:Option Addr} {n m:Nat} (h:ev f x=.slice p n m) (k:kM P N ops K rest (kF f d (.slice p n m)) w):kM P N ops K (⟨d,(.move x),ty,pos,af,none⟩ :: rest) f w:=jS (nL h) k
theorem YA {x:Operand} {b:Bool} (h:ev f x=.bool b) (k:kM P N ops K rest (kF f d (.bool b)) w):kM P N ops K (⟨d,(.move x),ty,pos,af,none⟩ :: rest) f w:=jS (kQ h) k
theorem Xq {x:Operand} {b:ByteArray} (h:ev f x=T b) (k:kM P N ops K rest (kF f d (T b)) w):kM P N ops K (⟨d,(.move x),ty,pos,af,none⟩ :: rest) f w:=jS (kY h) k
theorem aNl {x:Operand} {a:Addr} (h:ev f x=.pointer (some a)) (k:kM P N ops K rest (kF f d (.pointer (some a))) w):kM P N ops K (⟨d,(.nilCheck x),ty,pos,af,none⟩ :: rest) f w:=jS (VT h) k
theorem YT {x:Operand} {n:Int} (h:ev f x=V n) (k:kM P N ops K rest (kF f d (V n)) w):kM P N ops K (⟨d,(.assign x),ty,pos,af,none⟩ :: rest) f w:=jS (Qt h) k
theorem YV {x:Operand} {b:Bool} (h:ev f x=.bool b) (k:kM P N ops K rest (kF f d (.bool b)) w):kM P N ops K (⟨d,(.assign x),ty,pos,af,none⟩ :: rest) f w:=jS (ko h) k
theorem XJ {x:Operand} {p:Option Addr} {n m:Nat} (h:ev f x=.slice p n m) (k:kM P N ops K rest (kF f d (.slice p n m)) w):kM P N ops K (⟨d,(.assign x),ty,pos,af,none⟩ :: rest) f w:=jS (mG h) k
theorem YI {x:Operand} {p:Option Addr} (h:ev f x=.pointer p) (k:kM P N ops K rest (kF f d (.pointer p)) w):kM P N ops K (⟨d,(.assign x),ty,pos,af,none⟩ :: rest) f w:=jS (Me h) k
theorem Xh {x:Operand} {b:ByteArray} (h:ev f x=T b) (k:kM P N ops K rest (kF f d (T b)) w):kM P N ops K (⟨d,(.assign x),ty,pos,af,none⟩ :: rest) f w:=jS (mD h) k
theorem XW {t t':TypeId} {x y:Operand} {n m:Int} (h:ev f x=V n) (h2:ev f y=V m) (k:kM P N ops K rest (kF f d (.bool (decide (n=m)))) w):kM P N ops K (⟨d,(.binOp .eql t x y t'),ty,pos,af,none⟩ :: rest) f w:=jS (kH h h2) k
theorem Yp {t t':TypeId} {x y:Operand} {n m:Int} (h:ev f x=V n) (h2:ev f y=V m) (k:kM P N ops K rest (kF f d (.bool (decide (n≠m)))) w):kM P N ops K (⟨d,(.binOp .neq t x y t'),ty,pos,af,none⟩ :: rest) f w:=jS (rT h h2) k
theorem Xv {t t':TypeId} {x y:Operand} {n m:Int} (h:ev f x=V n) (h2:ev f y=V m) (k:kM P N ops K rest (kF f d (.bool (decide (n < m)))) w):kM P N ops K (⟨d,(.binOp .lss t x y t'),ty,pos,af,none⟩ :: rest) f w:=jS (qo h h2) k
theorem XZ {t t':TypeId} {x y:Operand} {n m:Int} (h:ev f x=V n) (h2:ev f y=V m) (k:kM P N ops K rest (kF f d (.bool (decide (n≤m)))) w):kM P N ops K (⟨d,(.binOp .leq t x y t'),ty,pos,af,none⟩ :: rest) f w:=jS (Ii h h2) k
theorem XF {t t':TypeId} {x y:Operand} {n m:Int} (h:ev f x=V n) (h2:ev f y=V m) (k:kM P N ops K rest (kF f d (.bool (decide (m < n)))) w):kM P N ops K (⟨d,(.binOp .gtr t x y t'),ty,pos,af,none⟩ :: rest) f w:=jS (uZ h h2) k
theorem YK {t t':TypeId} {x y:Operand} {n m:Int} (h:ev f x=V n) (h2:ev f y=V m) (k:kM P N ops K rest (kF f d (.bool (decide (m≤n)))) w):kM P N ops K (⟨d,(.binOp .geq t x y t'),ty,pos,af,none⟩ :: rest) f w:=jS (AX h h2) k
theorem XA {x:Operand} {i:Nat} {vs:Array Value} {v:Value} (h:ev f x=.tuple vs) (h2:vs[i]?=some v) (k:kM P N ops K rest (kF f d (v)) w):kM P N ops K (⟨d,(.extract x i),ty,pos,af,none⟩ :: rest) f w:=jS (kg h h2) k
theorem XU {t t':TypeId} {x y:Operand} {n m:Int} (h:ev f x=V n) (h2:ev f y=V m) (k:kM P N ops K rest (kF f d (V (wr (n+m)))) w):kM P N ops K (⟨d,(.binOp .add t x y t'),ty,pos,af,none⟩ :: rest) f w:=jS (kJ h h2) k
theorem Ya {t t':TypeId} {x y:Operand} {n m:Int} (h:ev f x=V n) (h2:ev f y=V m) (k:kM P N ops K rest (kF f d (V (wr (n - m)))) w):kM P N ops K (⟨d,(.binOp .sub t x y t'),ty,pos,af,none⟩ :: rest) f w:=jS (xJ h h2) k
theorem YM {t t':TypeId} {x y:Operand} {n m:Int} (h:ev f x=V n) (h2:ev f y=V m) (k:kM P N ops K rest (kF f d (V (wr (n * m)))) w):kM P N ops K (⟨d,(.binOp .mul t x y t'),ty,pos,af,none⟩ :: rest) f w:=jS (TH h h2) k
theorem XH {t t':TypeId} {x y:Operand} {n m:Int} (h:ev f x=V n) (h2:ev f y=V m) (k:kM P N ops K rest (kF f d (V (Ep (· &&& ·) n m))) w):kM P N ops K (⟨d,(.binOp .and t x y t'),ty,pos,af,none⟩ :: rest) f w:=jS (YP h h2) k
theorem aOr {t t':TypeId} {x y:Operand} {n m:Int} (h:ev f x=V n) (h2:ev f y=V m) (k:kM P N ops K rest (kF f d (V (Ep (· ||| ·) n m))) w):kM P N ops K (⟨d,(.binOp .or t x y t'),ty,pos,af,none⟩ :: rest) f w:=jS (ZX h h2) k
theorem Ye {t t':TypeId} {x y:Operand} {n m:Int} (h:ev f x=V n) (h2:ev f y=V m) (k:kM P N ops K rest (kF f d (V (Ep (· ^^^ ·) n m))) w):kM P N ops K (⟨d,(.binOp .xor t x y t'),ty,pos,af,none⟩ :: rest) f w:=jS (Yf h h2) k
theorem X3 {t:TypeId} {x:Operand} {n:Int} (h:ev f x=V n) (k:kM P N ops K rest (kF f d (V (wr (0 - n)))) w):kM P N ops K (⟨d,(.unOp .neg t x),ty,pos,af,none⟩ :: rest) f w:=jS (Xj h) k
theorem Xn {c x y:Operand} {b:Bool} (h:ev f c=.bool true) (h2:ev f x=.bool b) (k:kM P N ops K rest (kF f d (.bool b)) w):kM P N ops K (⟨d,(.pick c x y),ty,pos,af,none⟩ :: rest) f w:=jS (kG h h2) k
theorem Yt {c x y:Operand} {b:Bool} (h:ev f c=.bool false) (h2:ev f y=.bool b) (k:kM P N ops K rest (kF f d (.bool b)) w):kM P N ops K (⟨d,(.pick c x y),ty,pos,af,none⟩ :: rest) f w:=jS (jZ h h2) k
theorem XB {t:TypeId} {x:Operand} {b:Bool} (h:ev f x=.bool b) (k:kM P N ops K rest (kF f d (.bool (!b))) w):kM P N ops K (⟨d,(.unOp .not t x),ty,pos,af,none⟩ :: rest) f w:=jS (Ae h) k
end
section
variable {P:Program} {N:Fz} {Q:Post} {f:Fr} {w:World}
theorem qy {c:Operand} {x y:Code} {p:Prop} [Decidable p] (hc:ev f c=.bool (decide p)) (ht:p→WP P N x Q f w) (hf:¬ p→WP P N y Q f w):WP P N (.cond c x y) Q f w:=
 if h:p then jJ (hc.trans (bt h)) (ht h) else jD (hc.trans (bf h)) (hf h)
end
theorem go {G R:Prop} (k:R) (h:R→G:=by
 intro k
 repeat (first
  | refine Ji ?_
  | refine zY ?_
  | refine Lu ?_
  | refine EK ?_
  | refine nS ?_
  | refine Yv rfl ?_
  | refine Xk rfl ?_
  | refine Xg rfl ?_
  | refine YA rfl ?_
  | refine Xq rfl ?_
  | refine aNl rfl ?_
  | refine YT rfl ?_
  | refine YV rfl ?_
  | refine XJ rfl ?_
  | refine YI rfl ?_
  | refine Xh rfl ?_
  | refine XW rfl rfl ?_
  | refine Yp rfl rfl ?_
  | refine Xv rfl rfl ?_
  | refine XZ rfl rfl ?_
  | refine XF rfl rfl ?_
  | refine YK rfl rfl ?_
  | refine XA rfl rfl ?_
  | refine XU rfl rfl ?_
  | refine Ya rfl rfl ?_
  | refine YM rfl rfl ?_
  | refine XH rfl rfl ?_
  | refine aOr rfl rfl ?_
  | refine Ye rfl rfl ?_
  | refine X3 rfl ?_
  | refine Xn rfl rfl ?_
  | refine Yt rfl rfl ?_
  | refine XB rfl ?_
  | refine Xc rfl ?_
  | refine Xz rfl ?_
  | refine jJ rfl ?_
  | refine jD rfl ?_)
 exact k):G:=h k
def BD (b:Bool):Int:=if b then 1 else 0
theorem Bf {b:Bool} {w:World}:Calls Try.prog 121 #[.bool b] w (qQ fun v w'=>v=V (BD b)∧w'=w):=by
 refine cf Try.func121 rfl ?_
 refine lM [(0,.bool b)] ⟨rfl,trivial⟩ fun av=>?_
 cases b with
 | true=>
  refine go ?_
  refine kU ?_
  exact jB rfl (lq rfl) ⟨rfl,rfl⟩
 | false=>
  refine go ?_
  refine kU ?_
  exact jB rfl (lq rfl) ⟨rfl,rfl⟩
end Go.Proofs.Ytfglbdkfnphjgaa
