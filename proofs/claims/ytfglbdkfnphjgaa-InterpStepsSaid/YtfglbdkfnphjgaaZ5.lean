/- Short words for the printed walks. -/
import Derived.Test.YtfglbdkfnphjgaaLt
import Derived.Test.YtfglbdkfnphjgaaZ3
import Derived.Recover
set_option linter.unusedVariables false
namespace Go.Proofs.Ytfglbdkfnphjgaa
open Go.RowKit Go.Fw
noncomputable section
abbrev Z {α : Type} (a : Option Addr) (l : List α) (c : Nat) : Value := .slice a l.length c
abbrev V (n : Int) : Value := Vi n
abbrev T (n : ByteArray) : Value := Vt n
abbrev sz (α : Type) [Rp α] : Nat := Rp.sz α
abbrev O (e : Nat) (a : Option Addr) (c : Nat) (t : TypeId) (α : Type) [Rp α] (q : List (List Value)) : It := .own e a c t (Rp.sz α) q
theorem ca {α : Type} {a : α} {l m : List α} : a :: l ++ m = a :: (l ++ m) := rfl
theorem na {α : Type} {l : List α} : [] ++ l = l := rfl
theorem cb {a b : Bool} (h : a = b) : Value.bool a = .bool b := congrArg Value.bool h
theorem s : type_of% @jS := @jS
theorem q : type_of% @JO := @JO
theorem g : type_of% @zV := @zV
theorem n : type_of% @LY := @LY
theorem y : type_of% @trivial := @trivial
theorem mp : type_of% @vR := @vR
theorem mi : type_of% @Mw := @Mw
theorem xn : type_of% @U1 := @U1
theorem xi : type_of% @QJ := @QJ
theorem wk : type_of% @Fx := @Fx
theorem sc : type_of% @Dg := @Dg
theorem ec : type_of% @p8 := @p8
theorem iv : type_of% @mJ := @mJ
theorem tb : type_of% @RN := @RN
theorem ng : type_of% @mF := @mF
theorem oc : type_of% @Qu := @Qu
theorem oo : type_of% @YI := @YI
theorem os : type_of% @Xn := @Xn
theorem om : type_of% @kN.nil := @kN.nil
abbrev BA := ByteArray
abbrev Gv := jW
abbrev Gi := oM
abbrev Ge := jB
abbrev Gs := jN
abbrev Gr := nu
abbrev Gn := nI
abbrev Gm := lF
abbrev Gt := iA
theorem Fu : type_of% @Try.underlying3 := @Try.underlying3
theorem Zw : type_of% @Try.underlying4 := @Try.underlying4
theorem Yn : type_of% @Try.underlying5 := @Try.underlying5
theorem tV : type_of% @Try.underlying9 := @Try.underlying9
theorem rM : type_of% @Try.underlying22 := @Try.underlying22
theorem GL : type_of% @Try.underlying23 := @Try.underlying23
theorem Cv : type_of% @Try.underlying24 := @Try.underlying24
theorem Cg : type_of% @Try.underlying26 := @Try.underlying26
theorem FE : type_of% @Try.underlying27 := @Try.underlying27
theorem MS : type_of% @Try.underlying28 := @Try.underlying28
theorem DY : type_of% @Try.underlying30 := @Try.underlying30
theorem BN : type_of% @Try.underlying36 := @Try.underlying36
theorem Qj : type_of% @Try.underlying39 := @Try.underlying39
theorem BM : type_of% @Try.underlying48 := @Try.underlying48
theorem ZO : type_of% @Try.underlying50 := @Try.underlying50
theorem DT : type_of% @Try.underlying51 := @Try.underlying51
theorem U9 : type_of% @Try.underlying53 := @Try.underlying53
theorem LX : type_of% @Try.underlying55 := @Try.underlying55
theorem Tj : type_of% @Try.underlying59 := @Try.underlying59
theorem BD : type_of% @Try.underlying60 := @Try.underlying60
theorem kS : type_of% @Try.underlying70 := @Try.underlying70
theorem Al : type_of% @Try.underlying80 := @Try.underlying80
theorem Eu : type_of% @Try.underlying82 := @Try.underlying82
theorem Ck : type_of% @Try.underlying97 := @Try.underlying97
theorem tO : type_of% @Try.underlying109 := @Try.underlying109
theorem lS : type_of% @Try.underlying111 := @Try.underlying111
theorem NM : type_of% @Try.underlying127 := @Try.underlying127
theorem mR : type_of% @Try.underlying138 := @Try.underlying138
theorem BR : type_of% @Try.underlying143 := @Try.underlying143
theorem Ns : type_of% @Try.underlying187 := @Try.underlying187
section
variable {ρ : Operand → Value} {d : Option Nat} {ty : TypeId} {pos : String} {af : Array Edge} {g : Option (Nat × Bool)} {w : World} {x : Operand} {b o : Nat}
theorem CQ (h : ρ x = .pointer (some ⟨b, o, none⟩)) : Yl Try.prog ρ (.fieldAddr 26 x 0) d ty pos af g w (.pointer (some ⟨b, o, none⟩)) := qN Try.underlying26 rfl rfl VP (by decide) h
theorem Ai (h : ρ x = .pointer (some ⟨b, o, none⟩)) : Yl Try.prog ρ (.fieldAddr 26 x 1) d ty pos af g w (.pointer (some ⟨b, o + 1, none⟩)) := kY (k := 1) Try.underlying26 rfl rfl RU (by decide) h
theorem F3 (h : ρ x = .pointer (some ⟨b, o, none⟩)) : Yl Try.prog ρ (.fieldAddr 30 x 0) d ty pos af g w (.pointer (some ⟨b, o, none⟩)) := qN Try.underlying30 rfl rfl sM (by decide) h
theorem Ba (h : ρ x = .pointer (some ⟨b, o, none⟩)) : Yl Try.prog ρ (.fieldAddr 30 x 1) d ty pos af g w (.pointer (some ⟨b, o + 2, none⟩)) := kY (k := 2) Try.underlying30 rfl rfl Ut (by decide) h
theorem Ej (h : ρ x = .pointer (some ⟨b, o, none⟩)) : Yl Try.prog ρ (.fieldAddr 30 x 2) d ty pos af g w (.pointer (some ⟨b, o + 3, none⟩)) := kY (k := 3) Try.underlying30 rfl rfl WQ (by decide) h
theorem Ih (h : ρ x = .pointer (some ⟨b, o, none⟩)) : Yl Try.prog ρ (.fieldAddr 39 x 0) d ty pos af g w (.pointer (some ⟨b, o, none⟩)) := qN Try.underlying39 rfl rfl Ka (by decide) h
theorem NA (h : ρ x = .pointer (some ⟨b, o, none⟩)) : Yl Try.prog ρ (.fieldAddr 39 x 1) d ty pos af g w (.pointer (some ⟨b, o + 1, none⟩)) := kY (k := 1) Try.underlying39 rfl rfl LW (by decide) h
theorem JZ (h : ρ x = .pointer (some ⟨b, o, none⟩)) : Yl Try.prog ρ (.fieldAddr 39 x 2) d ty pos af g w (.pointer (some ⟨b, o + 2, none⟩)) := kY (k := 2) Try.underlying39 rfl rfl mK (by decide) h
theorem Eb (h : ρ x = .pointer (some ⟨b, o, none⟩)) : Yl Try.prog ρ (.fieldAddr 39 x 3) d ty pos af g w (.pointer (some ⟨b, o + 3, none⟩)) := kY (k := 3) Try.underlying39 rfl rfl Aj (by decide) h
theorem TF (h : ρ x = .pointer (some ⟨b, o, none⟩)) : Yl Try.prog ρ (.fieldAddr 53 x 0) d ty pos af g w (.pointer (some ⟨b, o, none⟩)) := qN Try.underlying53 rfl rfl mK (by decide) h
theorem TU (h : ρ x = .pointer (some ⟨b, o, none⟩)) : Yl Try.prog ρ (.fieldAddr 53 x 1) d ty pos af g w (.pointer (some ⟨b, o + 1, none⟩)) := kY (k := 1) Try.underlying53 rfl rfl mK (by decide) h
theorem TT (h : ρ x = .pointer (some ⟨b, o, none⟩)) : Yl Try.prog ρ (.fieldAddr 57 x 0) d ty pos af g w (.pointer (some ⟨b, o, none⟩)) := qN Try.underlying57 rfl rfl mK (by decide) h
theorem TH (h : ρ x = .pointer (some ⟨b, o, none⟩)) : Yl Try.prog ρ (.fieldAddr 57 x 1) d ty pos af g w (.pointer (some ⟨b, o + 1, none⟩)) := kY (k := 1) Try.underlying57 rfl rfl aat (by decide) h
theorem Pq (h : ρ x = .pointer (some ⟨b, o, none⟩)) : Yl Try.prog ρ (.fieldAddr 57 x 2) d ty pos af g w (.pointer (some ⟨b, o + 2, none⟩)) := kY (k := 2) Try.underlying57 rfl rfl Aj (by decide) h
theorem D9 (h : ρ x = .pointer (some ⟨b, o, none⟩)) : Yl Try.prog ρ (.fieldAddr 50 x 0) d ty pos af g w (.pointer (some ⟨b, o, none⟩)) := qN Try.underlying50 rfl rfl Tx (by decide) h
theorem Bw (h : ρ x = .pointer (some ⟨b, o, none⟩)) : Yl Try.prog ρ (.fieldAddr 53 x 2) d ty pos af g w (.pointer (some ⟨b, o + 2, none⟩)) := kY (k := 2) Try.underlying53 rfl rfl UM (by decide) h
theorem Uf (h : ρ x = .pointer (some ⟨b, o, none⟩)) : Yl Try.prog ρ (.fieldAddr 59 x 0) d ty pos af g w (.pointer (some ⟨b, o, none⟩)) := qN Try.underlying59 rfl rfl nU (by decide) h
theorem QG (h : ρ x = .pointer (some ⟨b, o, none⟩)) : Yl Try.prog ρ (.fieldAddr 59 x 1) d ty pos af g w (.pointer (some ⟨b, o + 1, none⟩)) := kY (k := 1) Try.underlying59 rfl rfl mK (by decide) h
theorem TJ (h : ρ x = .pointer (some ⟨b, o, none⟩)) : Yl Try.prog ρ (.fieldAddr 59 x 2) d ty pos af g w (.pointer (some ⟨b, o + 2, none⟩)) := kY (k := 2) Try.underlying59 rfl rfl mK (by decide) h
theorem TY (h : ρ x = .pointer (some ⟨b, o, none⟩)) : Yl Try.prog ρ (.fieldAddr 59 x 3) d ty pos af g w (.pointer (some ⟨b, o + 3, none⟩)) := kY (k := 3) Try.underlying59 rfl rfl mK (by decide) h
theorem X0 (h : ρ x = .pointer (some ⟨b, o, none⟩)) : Yl Try.prog ρ (.fieldAddr 59 x 5) d ty pos af g w (.pointer (some ⟨b, o + 5, none⟩)) := kY (k := 5) Try.underlying59 rfl rfl mK (by decide) h
theorem Ny (h : ρ x = .pointer (some ⟨b, o, none⟩)) : Yl Try.prog ρ (.fieldAddr 59 x 6) d ty pos af g w (.pointer (some ⟨b, o + 6, none⟩)) := kY (k := 6) Try.underlying59 rfl rfl mK (by decide) h
theorem Km (h : ρ x = .pointer (some ⟨b, o, none⟩)) : Yl Try.prog ρ (.fieldAddr 82 x 0) d ty pos af g w (.pointer (some ⟨b, o, none⟩)) := qN Try.underlying82 rfl rfl nU (by decide) h
theorem Na (h : ρ x = .pointer (some ⟨b, o, none⟩)) : Yl Try.prog ρ (.fieldAddr 82 x 1) d ty pos af g w (.pointer (some ⟨b, o + 1, none⟩)) := kY (k := 1) Try.underlying82 rfl rfl mK (by decide) h
theorem FB (h : ρ x = .pointer (some ⟨b, o, none⟩)) : Yl Try.prog ρ (.fieldAddr 82 x 2) d ty pos af g w (.pointer (some ⟨b, o + 2, none⟩)) := kY (k := 2) Try.underlying82 rfl rfl nT (by decide) h
theorem CW (h : ρ x = .pointer (some ⟨b, o, none⟩)) : Yl Try.prog ρ (.fieldAddr 82 x 3) d ty pos af g w (.pointer (some ⟨b, o + 3, none⟩)) := kY (k := 3) Try.underlying82 rfl rfl y9 (by decide) h
theorem yY (h : ρ x = .pointer (some ⟨b, o, none⟩)) : Yl Try.prog ρ (.fieldAddr 102 x 0) d ty pos af g w (.pointer (some ⟨b, o, none⟩)) := qN Try.underlying102 rfl rfl aaC (by decide) h
theorem lW (h : ρ x = .pointer (some ⟨b, o, none⟩)) : Yl Try.prog ρ (.fieldAddr 102 x 1) d ty pos af g w (.pointer (some ⟨b, o + 1, none⟩)) := kY (k := 1) Try.underlying102 rfl rfl mK (by decide) h
theorem O6 (h : ρ x = .pointer (some ⟨b, o, none⟩)) : Yl Try.prog ρ (.fieldAddr 102 x 2) d ty pos af g w (.pointer (some ⟨b, o + 2, none⟩)) := kY (k := 2) Try.underlying102 rfl rfl mK (by decide) h
theorem qO (h : ρ x = .pointer (some ⟨b, o, none⟩)) : Yl Try.prog ρ (.fieldAddr 102 x 3) d ty pos af g w (.pointer (some ⟨b, o + 3, none⟩)) := kY (k := 3) Try.underlying102 rfl rfl Ka (by decide) h
theorem xU (h : ρ x = .pointer (some ⟨b, o, none⟩)) : Yl Try.prog ρ (.fieldAddr 111 x 0) d ty pos af g w (.pointer (some ⟨b, o, none⟩)) := qN Try.underlying111 rfl rfl mK (by decide) h
theorem Ac (h : ρ x = .pointer (some ⟨b, o, none⟩)) : Yl Try.prog ρ (.fieldAddr 111 x 1) d ty pos af g w (.pointer (some ⟨b, o + 1, none⟩)) := kY (k := 1) Try.underlying111 rfl rfl mK (by decide) h
theorem ML (h : ρ x = .pointer (some ⟨b, o, none⟩)) : Yl Try.prog ρ (.fieldAddr 111 x 2) d ty pos af g w (.pointer (some ⟨b, o + 2, none⟩)) := kY (k := 2) Try.underlying111 rfl rfl mK (by decide) h
theorem zD (h : ρ x = .pointer (some ⟨b, o, none⟩)) : Yl Try.prog ρ (.fieldAddr 111 x 3) d ty pos af g w (.pointer (some ⟨b, o + 3, none⟩)) := kY (k := 3) Try.underlying111 rfl rfl nU (by decide) h
theorem Fj (h : ρ x = .pointer (some ⟨b, o, none⟩)) : Yl Try.prog ρ (.fieldAddr 111 x 4) d ty pos af g w (.pointer (some ⟨b, o + 4, none⟩)) := kY (k := 4) Try.underlying111 rfl rfl nU (by decide) h
theorem BG (h : ρ x = .pointer (some ⟨b, o, none⟩)) : Yl Try.prog ρ (.fieldAddr 111 x 5) d ty pos af g w (.pointer (some ⟨b, o + 5, none⟩)) := kY (k := 5) Try.underlying111 rfl rfl mK (by decide) h
theorem MX (h : ρ x = .pointer (some ⟨b, o, none⟩)) : Yl Try.prog ρ (.fieldAddr 111 x 6) d ty pos af g w (.pointer (some ⟨b, o + 6, none⟩)) := kY (k := 6) Try.underlying111 rfl rfl mK (by decide) h
theorem xV (h : ρ x = .pointer (some ⟨b, o, none⟩)) : Yl Try.prog ρ (.fieldAddr 111 x 7) d ty pos af g w (.pointer (some ⟨b, o + 7, none⟩)) := kY (k := 7) Try.underlying111 rfl rfl rY (by decide) h
theorem CF (h : ρ x = .pointer (some ⟨b, o, none⟩)) : Yl Try.prog ρ (.fieldAddr 111 x 8) d ty pos af g w (.pointer (some ⟨b, o + 8, none⟩)) := kY (k := 8) Try.underlying111 rfl rfl nU (by decide) h
theorem Mj (h : ρ x = .pointer (some ⟨b, o, none⟩)) : Yl Try.prog ρ (.fieldAddr 111 x 9) d ty pos af g w (.pointer (some ⟨b, o + 9, none⟩)) := kY (k := 9) Try.underlying111 rfl rfl mK (by decide) h
theorem uQ (h : ρ x = .pointer (some ⟨b, o, none⟩)) : Yl Try.prog ρ (.fieldAddr 111 x 10) d ty pos af g w (.pointer (some ⟨b, o + 10, none⟩)) := kY (k := 10) Try.underlying111 rfl rfl rY (by decide) h
theorem wu (h : ρ x = .pointer (some ⟨b, o, none⟩)) : Yl Try.prog ρ (.fieldAddr 111 x 11) d ty pos af g w (.pointer (some ⟨b, o + 11, none⟩)) := kY (k := 11) Try.underlying111 rfl rfl y9 (by decide) h
theorem wW (h : ρ x = .pointer (some ⟨b, o, none⟩)) : Yl Try.prog ρ (.fieldAddr 111 x 12) d ty pos af g w (.pointer (some ⟨b, o + 12, none⟩)) := kY (k := 12) Try.underlying111 rfl rfl y9 (by decide) h
theorem pK (h : ρ x = .pointer (some ⟨b, o, none⟩)) : Yl Try.prog ρ (.fieldAddr 115 x 0) d ty pos af g w (.pointer (some ⟨b, o, none⟩)) := qN Try.underlying115 rfl rfl wm (by decide) h
theorem zZ (h : ρ x = .pointer (some ⟨b, o, none⟩)) : Yl Try.prog ρ (.fieldAddr 115 x 1) d ty pos af g w (.pointer (some ⟨b, o + 4, none⟩)) := kY (k := 4) Try.underlying115 rfl rfl mK (by decide) h
theorem zX (h : ρ x = .pointer (some ⟨b, o, none⟩)) : Yl Try.prog ρ (.fieldAddr 115 x 2) d ty pos af g w (.pointer (some ⟨b, o + 5, none⟩)) := kY (k := 5) Try.underlying115 rfl rfl Aj (by decide) h
theorem QD (h : ρ x = .pointer (some ⟨b, o, none⟩)) : Yl Try.prog ρ (.fieldAddr 115 x 3) d ty pos af g w (.pointer (some ⟨b, o + 6, none⟩)) := kY (k := 6) Try.underlying115 rfl rfl mK (by decide) h
theorem yX (h : ρ x = .pointer (some ⟨b, o, none⟩)) : Yl Try.prog ρ (.fieldAddr 115 x 4) d ty pos af g w (.pointer (some ⟨b, o + 7, none⟩)) := kY (k := 7) Try.underlying115 rfl rfl Ka (by decide) h
theorem Iy (h : ρ x = .pointer (some ⟨b, o, none⟩)) : Yl Try.prog ρ (.fieldAddr 127 x 0) d ty pos af g w (.pointer (some ⟨b, o, none⟩)) := qN Try.underlying127 rfl rfl nU (by decide) h
theorem Bg (h : ρ x = .pointer (some ⟨b, o, none⟩)) : Yl Try.prog ρ (.fieldAddr 127 x 1) d ty pos af g w (.pointer (some ⟨b, o + 1, none⟩)) := kY (k := 1) Try.underlying127 rfl rfl nT (by decide) h
theorem LZ (h : ρ x = .pointer (some ⟨b, o, none⟩)) : Yl Try.prog ρ (.fieldAddr 132 x 0) d ty pos af g w (.pointer (some ⟨b, o, none⟩)) := qN Try.underlying132 rfl rfl Aj (by decide) h
theorem FZ (h : ρ x = .pointer (some ⟨b, o, none⟩)) : Yl Try.prog ρ (.fieldAddr 132 x 1) d ty pos af g w (.pointer (some ⟨b, o + 1, none⟩)) := kY (k := 1) Try.underlying132 rfl rfl mK (by decide) h
theorem oJ (h : ρ x = .pointer (some ⟨b, o, none⟩)) : Yl Try.prog ρ (.fieldAddr 135 x 0) d ty pos af g w (.pointer (some ⟨b, o, none⟩)) := qN Try.underlying135 rfl rfl YH (by decide) h
theorem WK (h : ρ x = .pointer (some ⟨b, o, none⟩)) : Yl Try.prog ρ (.fieldAddr 135 x 1) d ty pos af g w (.pointer (some ⟨b, o + 1, none⟩)) := kY (k := 1) Try.underlying135 rfl rfl mK (by decide) h
theorem MG (h : ρ x = .pointer (some ⟨b, o, none⟩)) : Yl Try.prog ρ (.fieldAddr 135 x 2) d ty pos af g w (.pointer (some ⟨b, o + 2, none⟩)) := kY (k := 2) Try.underlying135 rfl rfl mK (by decide) h
theorem Xb (h : ρ x = .pointer (some ⟨b, o, none⟩)) : Yl Try.prog ρ (.fieldAddr 135 x 3) d ty pos af g w (.pointer (some ⟨b, o + 3, none⟩)) := kY (k := 3) Try.underlying135 rfl rfl Aj (by decide) h
theorem mI (h : ρ x = .pointer (some ⟨b, o, none⟩)) : Yl Try.prog ρ (.fieldAddr 135 x 4) d ty pos af g w (.pointer (some ⟨b, o + 4, none⟩)) := kY (k := 4) Try.underlying135 rfl rfl nT (by decide) h
theorem pU (h : ρ x = .pointer (some ⟨b, o, none⟩)) : Yl Try.prog ρ (.fieldAddr 135 x 5) d ty pos af g w (.pointer (some ⟨b, o + 5, none⟩)) := kY (k := 5) Try.underlying135 rfl rfl nT (by decide) h
theorem qA (h : ρ x = .pointer (some ⟨b, o, none⟩)) : Yl Try.prog ρ (.fieldAddr 135 x 6) d ty pos af g w (.pointer (some ⟨b, o + 6, none⟩)) := kY (k := 6) Try.underlying135 rfl rfl nT (by decide) h
theorem DK (h : ρ x = .pointer (some ⟨b, o, none⟩)) : Yl Try.prog ρ (.fieldAddr 135 x 7) d ty pos af g w (.pointer (some ⟨b, o + 7, none⟩)) := kY (k := 7) Try.underlying135 rfl rfl mK (by decide) h
theorem MW (h : ρ x = .pointer (some ⟨b, o, none⟩)) : Yl Try.prog ρ (.fieldAddr 135 x 8) d ty pos af g w (.pointer (some ⟨b, o + 8, none⟩)) := kY (k := 8) Try.underlying135 rfl rfl mK (by decide) h
theorem Ab (h : ρ x = .pointer (some ⟨b, o, none⟩)) : Yl Try.prog ρ (.fieldAddr 138 x 0) d ty pos af g w (.pointer (some ⟨b, o, none⟩)) := qN Try.underlying138 rfl rfl mK (by decide) h
theorem Jy (h : ρ x = .pointer (some ⟨b, o, none⟩)) : Yl Try.prog ρ (.fieldAddr 138 x 1) d ty pos af g w (.pointer (some ⟨b, o + 1, none⟩)) := kY (k := 1) Try.underlying138 rfl rfl mK (by decide) h
theorem Vk (h : ρ x = .pointer (some ⟨b, o, none⟩)) : Yl Try.prog ρ (.fieldAddr 138 x 2) d ty pos af g w (.pointer (some ⟨b, o + 2, none⟩)) := kY (k := 2) Try.underlying138 rfl rfl mK (by decide) h
theorem Jz (h : ρ x = .pointer (some ⟨b, o, none⟩)) : Yl Try.prog ρ (.fieldAddr 138 x 3) d ty pos af g w (.pointer (some ⟨b, o + 3, none⟩)) := kY (k := 3) Try.underlying138 rfl rfl nU (by decide) h
theorem QN (h : ρ x = .pointer (some ⟨b, o, none⟩)) : Yl Try.prog ρ (.fieldAddr 138 x 4) d ty pos af g w (.pointer (some ⟨b, o + 4, none⟩)) := kY (k := 4) Try.underlying138 rfl rfl nU (by decide) h
theorem AJ (h : ρ x = .pointer (some ⟨b, o, none⟩)) : Yl Try.prog ρ (.fieldAddr 138 x 5) d ty pos af g w (.pointer (some ⟨b, o + 5, none⟩)) := kY (k := 5) Try.underlying138 rfl rfl rY (by decide) h
theorem Mc (h : ρ x = .pointer (some ⟨b, o, none⟩)) : Yl Try.prog ρ (.fieldAddr 143 x 0) d ty pos af g w (.pointer (some ⟨b, o, none⟩)) := qN Try.underlying143 rfl rfl mK (by decide) h
theorem IW (h : ρ x = .pointer (some ⟨b, o, none⟩)) : Yl Try.prog ρ (.fieldAddr 143 x 1) d ty pos af g w (.pointer (some ⟨b, o + 1, none⟩)) := kY (k := 1) Try.underlying143 rfl rfl mK (by decide) h
theorem I5 (h : ρ x = .pointer (some ⟨b, o, none⟩)) : Yl Try.prog ρ (.fieldAddr 143 x 2) d ty pos af g w (.pointer (some ⟨b, o + 2, none⟩)) := kY (k := 2) Try.underlying143 rfl rfl nU (by decide) h
theorem Qk (h : ρ x = .pointer (some ⟨b, o, none⟩)) : Yl Try.prog ρ (.fieldAddr 143 x 3) d ty pos af g w (.pointer (some ⟨b, o + 3, none⟩)) := kY (k := 3) Try.underlying143 rfl rfl mK (by decide) h
theorem l3 {t : TypeId} {cs : Array Value} {v : Value} (h : ρ x = .pointer (some ⟨b, o, none⟩)) (hb : mQ w b t cs) (hi : cs[o]? = some v) : Yl Try.prog ρ (.load 3 x) d ty pos af g w v := jP Try.underlying3 rfl h (hb.cell hi)
theorem l4 {t : TypeId} {cs : Array Value} {v : Value} (h : ρ x = .pointer (some ⟨b, o, none⟩)) (hb : mQ w b t cs) (hi : cs[o]? = some v) : Yl Try.prog ρ (.load 4 x) d ty pos af g w v := jP Try.underlying4 rfl h (hb.cell hi)
theorem l9 {t : TypeId} {cs : Array Value} {v : Value} (h : ρ x = .pointer (some ⟨b, o, none⟩)) (hb : mQ w b t cs) (hi : cs[o]? = some v) : Yl Try.prog ρ (.load 9 x) d ty pos af g w v := jP Try.underlying9 rfl h (hb.cell hi)
theorem Kr {t : TypeId} {cs : Array Value} {v : Value} (h : ρ x = .pointer (some ⟨b, o, none⟩)) (hb : mQ w b t cs) (hi : cs[o]? = some v) : Yl Try.prog ρ (.load 22 x) d ty pos af g w v := jP Try.underlying22 rfl h (hb.cell hi)
theorem Ue {t : TypeId} {cs : Array Value} {v : Value} (h : ρ x = .pointer (some ⟨b, o, none⟩)) (hb : mQ w b t cs) (hi : cs[o]? = some v) : Yl Try.prog ρ (.load 23 x) d ty pos af g w v := jP Try.underlying23 rfl h (hb.cell hi)
theorem OX {t : TypeId} {cs : Array Value} {v : Value} (h : ρ x = .pointer (some ⟨b, o, none⟩)) (hb : mQ w b t cs) (hi : cs[o]? = some v) : Yl Try.prog ρ (.load 24 x) d ty pos af g w v := jP Try.underlying24 rfl h (hb.cell hi)
theorem Q5 {t : TypeId} {cs : Array Value} {v : Value} (h : ρ x = .pointer (some ⟨b, o, none⟩)) (hb : mQ w b t cs) (hi : cs[o]? = some v) : Yl Try.prog ρ (.load 27 x) d ty pos af g w v := jP Try.underlying27 rfl h (hb.cell hi)
theorem Va {t : TypeId} {cs : Array Value} {v : Value} (h : ρ x = .pointer (some ⟨b, o, none⟩)) (hb : mQ w b t cs) (hi : cs[o]? = some v) : Yl Try.prog ρ (.load 28 x) d ty pos af g w v := jP Try.underlying28 rfl h (hb.cell hi)
theorem Bc {t : TypeId} {cs : Array Value} {v : Value} (h : ρ x = .pointer (some ⟨b, o, none⟩)) (hb : mQ w b t cs) (hi : cs[o]? = some v) : Yl Try.prog ρ (.load 37 x) d ty pos af g w v := jP Try.underlying37 rfl h (hb.cell hi)
theorem Tn {t : TypeId} {cs : Array Value} {v : Value} (h : ρ x = .pointer (some ⟨b, o, none⟩)) (hb : mQ w b t cs) (hi : cs[o]? = some v) : Yl Try.prog ρ (.load 51 x) d ty pos af g w v := jP Try.underlying51 rfl h (hb.cell hi)
theorem zO {t : TypeId} {cs : Array Value} {v : Value} (h : ρ x = .pointer (some ⟨b, o, none⟩)) (hb : mQ w b t cs) (hi : cs[o]? = some v) : Yl Try.prog ρ (.load 70 x) d ty pos af g w v := jP Try.underlying70 rfl h (hb.cell hi)
theorem Oy {t : TypeId} {cs : Array Value} {v : Value} (h : ρ x = .pointer (some ⟨b, o, none⟩)) (hb : mQ w b t cs) (hi : cs[o]? = some v) : Yl Try.prog ρ (.load 80 x) d ty pos af g w v := jP Try.underlying80 rfl h (hb.cell hi)
theorem OY {t : TypeId} {cs : Array Value} {v : Value} (h : ρ x = .pointer (some ⟨b, o, none⟩)) (hb : mQ w b t cs) (hi : cs[o]? = some v) : Yl Try.prog ρ (.load 97 x) d ty pos af g w v := jP Try.underlying97 rfl h (hb.cell hi)
theorem Bb {t : TypeId} {cs : Array Value} {v : Value} (h : ρ x = .pointer (some ⟨b, o, none⟩)) (hb : mQ w b t cs) (hi : cs[o]? = some v) : Yl Try.prog ρ (.load 109 x) d ty pos af g w v := jP Try.underlying109 rfl h (hb.cell hi)
theorem xK {t : TypeId} {cs : Array Value} {v : Value} (h : ρ x = .pointer (some ⟨b, o, none⟩)) (hb : mQ w b t cs) (hi : cs[o]? = some v) : Yl Try.prog ρ (.load 130 x) d ty pos af g w v := jP Try.underlying130 rfl h (hb.cell hi)
end
section
variable {P : Program} {N:Fz} {ops : Array Oper} {f : Fr} {w w0 : World} {n : Nat} {K:KK} {Lb : Array Bool} {T : List Nat} {Y G : Nat → Prop} {L : List It} {D : List Da} {S1 S : World → Prop}
theorem pF (i : Nat) {oi : Oper} {v : Value} (hi : ops[i]? = some oi) (hy : ∀ {w : World}, (execOp (ev f) oi).run P w = .ok (.value v) w) (hs : S1 w)
 (k : rE P N ops S1 (fun _ => True) T K n (Lb.setIfInBounds i true) (kI f oi.dst v) w) (hw : sJ ops f oi.guard = true := by exact rfl) (hc : may ops T Lb i = true := by kernel_rfl) : rE P N ops S1 (fun _ => True) T K (n + 1) Lb f w := tP i hi (fun _ => hy) (sF hs) k hw hc
theorem pL (i : Nat) {oi : Oper} {v : Value} (hi : ops[i]? = some oi) (hy : ∀ {w : World}, (execOp (ev f) oi).run P w = .ok (.value v) w) (hs : S1 w) (hu : S w)
 (k : rE P N ops S1 S T K n (Lb.setIfInBounds i true) (kI f oi.dst v) w) (hw : sJ ops f oi.guard = true := by exact rfl) (hc : may ops T Lb i = true := by kernel_rfl) : rE P N ops S1 S T K (n + 1) Lb f w := tP i hi (fun _ => hy) (mF hs hu) k hw hc
theorem uF (i : Nat) {oi : Oper} {v : Value} (hi : ops[i]? = some oi) (hy : ∀ {w : World}, S1 w → (execOp (ev f) oi).run P w = .ok (.value v) w) (hs : S1 w)
 (k : rE P N ops S1 (fun _ => True) T K n (Lb.setIfInBounds i true) (kI f oi.dst v) w) (hw : sJ ops f oi.guard = true := by exact rfl) (hc : may ops T Lb i = true := by kernel_rfl) : rE P N ops S1 (fun _ => True) T K (n + 1) Lb f w := tU i hi (fun _ => hy) (sF hs) k hw hc
theorem hO (i : Nat) (h : AR P N ops S1 S T K n Lb f w i) (hr : Region.ready .any ops Lb = [i] := by kernel_rfl) : rE P N ops S1 S T K (n + 1) Lb f w := X7 i hr h
theorem hD (h : K.n f w) (hr : Region.ready .any ops Lb = [] := by kernel_rfl) : rE P N ops S1 S T K n Lb f w := VZ hr h
theorem sy (t : Nat) (h1 : S1 w) (h : (T.contains t && Lb.getD t false) = true := by kernel_rfl) : D7 S1 T S Lb w := PK t h1 h
theorem cf {g : FuncId} {fn : Func} {c : Code} {args : Array Value} {R : Value → World → Prop} (hf : P.funcs[g]? = some fn) (hb : fn.body = some c)
 (h : WP P (fn.ntmps,[]) c ⟨Reads P fn R, fun _ _ _ => False, Reads P fn R, fun _ _ _ => False⟩ (xS args) w) (hs : Nat.ble args.size fn.ntmps = true := by exact rfl) (hok : CJ (fn.ntmps,[]) c = true := by kernel_rfl) : Calls P g args w (qw R) := PI hf hb (Nat.le_of_ble_eq_true hs) hok h
end
end
end Go.Proofs.Ytfglbdkfnphjgaa
namespace Go.Fw
theorem Bx.ad {w0 w : World} {Y G : Nat → Prop} {L : List It} {D : List Da} (h : Bx w0 w Y G L D) (l m : List Nat) (hn : nodup l = true := by exact rfl) : Bx w0 w Y G (pick L l) (pick D m) := (h.arr l hn).dp m
theorem Bx.le {w0 w : World} {Y G : Nat → Prop} {L : List It} {D : List Da} {e : Nat} (h : Bx w0 w Y G L D) (k : e ≤ w0.heap.size) : e ≤ w.heap.size := Nat.le_trans k h.q9.size
theorem lT {α β γ:Type} {o:Option (α × β)} {f:α→β→Option γ} {X:γ} (h:(o.bind fun x=>jy x f)=some X):∃ a b,o=some (a,b)∧f a b=some X:=by
 obtain ⟨⟨a,b⟩,h1,h2⟩:=bs h
 exact ⟨a,b,h1,h2⟩
theorem vk {α β γ δ:Type} {o:Option (α × β × γ)} {f:α→β→γ→Option δ} {X:δ} (h:(o.bind fun x=>jy x fun a y=>jy y (f a))=some X):∃ a b c,o=some (a,b,c)∧f a b c=some X:=by
 obtain ⟨⟨a,b,c⟩,h1,h2⟩:=bs h
 exact ⟨a,b,c,h1,h2⟩
theorem XF {α β γ δ ε:Type} {o:Option (α × β × γ × δ)} {f:α→β→γ→δ→Option ε} {X:ε} (h:(o.bind fun x=>jy x fun a y=>jy y fun b z=>jy z (f a b))=some X):∃ a b c d,o=some (a,b,c,d)∧f a b c d=some X:=by
 obtain ⟨⟨a,b,c,d⟩,h1,h2⟩:=bs h
 exact ⟨a,b,c,d,h1,h2⟩
theorem Bj {α β γ δ:Type} {a:α} {b:β} {c:γ} {f:α→β→γ→δ} {X:δ} (h:jy (a,b,c) (fun x y=>jy y (f x))=X):f a b c=X:=h
theorem mE {α β γ ε δ:Type} {a:α} {b:β} {c:γ} {d:ε} {f:α→β→γ→ε→δ} {X:δ} (h:jy (a,b,c,d) (fun x y=>jy y fun u v=>jy v (f x u))=X):f a b c d=X:=h
section
variable {P:Program} {N:Fz} {ops:Array Oper} {K:KK} {rest:List Oper} {f:Fr} {w w0:World} {d:Option Nat} {op:Op} {ty:TypeId} {pos:String} {af:Array Edge} {Z G:Nat→Prop} {L:List It} {D:List Da}
theorem tC (h:Bx w0 w Z G L D) {t:TypeId} {cs:Array Value} (e:(execOp (ev f) ⟨d,op,ty,pos,af,none⟩).run P w=.ok (.value (.pointer (some ⟨w.heap.size,0,none⟩))) (w.alloc (.cells cs t))) (k:∀ w' b,Bx w0 w' Z G (.box b t cs :: L) D→kQ P N ops K rest (kI f d (.pointer (some ⟨b,0,none⟩))) w'):kQ P N ops K (⟨d,op,ty,pos,af,none⟩ :: rest) f w:=nO (nH h e) (by rintro _ w' ⟨b,rfl,h⟩;exact k w' b h)
end
def spl:List Value→Nat→List Value→List Value
 | [],_,_=>[]
 | a :: l,0,[]=>a :: l
 | _ :: l,0,v :: m=>v :: spl l 0 m
 | a :: l,n+1,m=>a :: spl l n m
theorem MH:∀ (l:List Value) (o:Nat) (m:List Value),o+m.length≤l.length→spl l o m=l.take o ++ m ++ l.drop (o+m.length)
 | [],o,m,h=>by
  have h1:m=[]:=List.length_eq_zero_iff.1 (by simp only [List.length_nil] at h;omega)
  subst h1;simp [spl]
 | a :: l,0,[],_=>by simp [spl]
 | a :: l,0,v :: m,h=>by
  have:=MH l 0 m (by simp only [List.length_cons] at h;omega)
  simp only [spl,this];simp
 | a :: l,n+1,m,h=>by
  have:=MH l n m (by simp only [List.length_cons] at h;omega)
  rw [spl,this,show n+1+m.length=(n+m.length)+1 by omega];simp
section
variable {P:Program} {ρ:Operand→Value} {w w' w0:World} {d:Option Nat} {ty:TypeId} {pos:String} {af:Array Edge} {g:Option (Nat × Bool)} {Z G:Nat→Prop} {L L' L1 Lc:List It} {D D' D1:List Da}
theorem nR (hL:Bx w0 w Z G L D) (i:Nat) {t te:TypeId} {x y:Operand} {z:Value} {s by_ b:Nat} {old:Array Value} (vs:List Value) (hi:L[i]?=some (.box b te old)) (ht:TI P t z s by_)
  (hx:ρ x=.pointer (some ⟨b,0,none⟩)) (hy:(ρ y).cells=vs.toArray) (e:L.set i (.box b te vs.toArray)=L':=by (try dsimp only [List.set]);all_goals exact rfl) (hs:s=vs.length:=by exact rfl) (h1:vs.all (fun v=>v.oneCell')=true:=by exact rfl) (hl:Nat.beq vs.length old.size=true:=by exact rfl) :
  Rm P ρ ⟨d,.store t x y,ty,pos,af,g⟩ w fun w'=>Bx w0 w' Z G L' D:=by
 have h:=Nat.eq_of_beq_eq_true hl
 subst e
 refine RN hL i vs hi ht hs hx hy h1 (Nat.ble_eq_true_of_le (by rw [Nat.zero_add,h];exact Nat.le_refl _)) ?_
 rw [Nat.zero_add,List.take_zero,List.nil_append,List.drop_eq_nil_of_le (by rw [h];simp),List.append_nil]
theorem t_n (hL:Bx w0 w Z G L D) (i:Nat) {t te:TypeId} {x y:Operand} {z:Value} {s by_ b o:Nat} {old cs':List Value} (vs:List Value) (hi:L[i]?=some (.box b te old.toArray)) (ht:TI P t z s by_)
  (hx:ρ x=.pointer (some ⟨b,o,none⟩)) (hy:(ρ y).cells=vs.toArray) (hc:spl old o vs=cs':=by (try dsimp only [spl]);all_goals exact rfl) (e:L.set i (.box b te cs'.toArray)=L':=by (try dsimp only [List.set]);all_goals exact rfl) (hs:s=vs.length:=by exact rfl) (h1:vs.all (fun v=>v.oneCell')=true:=by exact rfl) (hl:Nat.ble (o+vs.length) old.length=true:=by exact rfl) :
  Rm P ρ ⟨d,.store t x y,ty,pos,af,g⟩ w fun w'=>Bx w0 w' Z G L' D:=by
 have h:=Nat.le_of_ble_eq_true hl
 subst e hc
 refine RN hL i vs hi ht hs hx hy h1 (Nat.ble_eq_true_of_le (by simpa using h)) ?_
 rw [MH _ _ _ h]
theorem Bx.cn (h:Bx w0 w Z G L D) (i r:List Nat) (k:Bx w w' (CP w0 Z (pick L i ++ pick L r)) (lK Lc) L1 D1) (hL:L1 ++ pick L r=L':=by (try dsimp only [pick,nth,List.cons_append,List.nil_append]);all_goals exact rfl) (hD:D1 ++ D=D':=by (try dsimp only [List.cons_append,List.nil_append]);all_goals exact rfl) (e:pick L i=Lc:=by exact rfl) (hn:nodup (i ++ r)=true:=by exact rfl):Bx w0 w' Z G L' D':=by
 subst hL hD
 exact h.cl i r hn k e
theorem Bx.fz (h:Bx w0 w Z G L D) (i j:Nat) {α:Type} [Rp α] {e:TypeId} {A:Option Addr} {c:Nat} {cs:List (List Value)} {l:List α} (hi:L[i]?=some (.own w0.heap.size A c e (Rp.sz α) cs)) (hj:D[j]?=some (.els cs l)) (hL:L.eraseIdx i=L':=by (try dsimp only [List.eraseIdx]);all_goals exact rfl) (hD:D.eraseIdx j=D':=by (try dsimp only [List.eraseIdx]);all_goals exact rfl) :
  Bx w0 w Z G L' (.l A c l :: D'):=by
 subst hL hD
 exact h.Qa i j hi hj
theorem Bx.rb (h:Bx w0 w Z G L D) (i:Nat) {base:Nat} {A:Option Addr} {c sz:Nat} {e:TypeId} {cs:List (List Value)} (base':Nat) (hi:L[i]?=some (.own base A c e sz cs)) (hb:base'≤base) (hL:L.set i (.own base' A c e sz cs)=L':=by (try dsimp only [List.set]);all_goals exact rfl):Bx w0 w Z G L' D:=by
 subst hL
 exact h.reb i base' hi hb
theorem Xy {t:TypeId} {x:Operand} {T:TypeDesc} {z:Value} {s by_:Nat} {α:Type} [Rp α] {F:Nat→Prop} {a:Option Addr} {c:Nat} {l:List α} {k:Nat} {y:α} (cs:List Value) (hu:P.underlying t=some T) (hi:TI P t z s by_)
 (hx:ρ x=.pointer (some ⟨nK a,oV a+k * Rp.sz α,none⟩)) (h:kN F w a c l) (hy:l[k]?=some y) (hD:Mq T=true:=by exact rfl) (hs:s=cs.length:=by exact rfl) (hr:∀ ds,Rp.rep F w ds y→ds=cs:=by exact fun _ h=>h):Yl P ρ (.load t x) d ty pos af g w (.agg cs.toArray):=nG cs hu hD hi hs hx (uI h hy hr)
theorem mZ {t te:TypeId} {x:Operand} {T:TypeDesc} {z:Value} {s by_ b:Nat} {old:Array Value} (cs:List Value) (hu:P.underlying t=some T) (hi:TI P t z s by_)
 (hx:ρ x=.pointer (some ⟨b,0,none⟩)) (h:mQ w b te old) (hD:Mq T=true:=by exact rfl) (hs:s=cs.length:=by exact rfl) (hr:(old.toList.drop 0).take cs.length=cs:=by exact rfl):Yl P ρ (.load t x) d ty pos af g w (.agg cs.toArray):=nG cs hu hD hi hs hx (Cells.part h.cells (o2:=0) hr)
end
end Go.Fw
set_option linter.unusedVariables false
namespace Go.Fw
open Go.RowKit
def RP (R:Value→World→Prop) (V:List PanicEntry→World→Prop):Ending→World→Prop
 | .returned v,w=>R v w
 | .panicked c,w=>V c w
 | .outgrown,_=>False
def XJ (v:Value) (c:List PanicEntry):Prop:=∃ l:List PanicEntry,c=⟨v,false,false⟩ :: l∧∀ e ∈ l,e.goexit=false
theorem xJ (v:Value):XJ v [⟨v,false,false⟩]:=⟨[],rfl,fun _ h=>by cases h⟩
section
variable {P:Program} {N:Fz} {ops:Array Oper} {K:KK} {rest:List Oper} {f:Fr} {w:World} {d:Option Nat} {op:Op} {ty:TypeId} {pos:String} {af:Array Edge}
theorem JK {w':World} {g:FuncId} {args:Array Value} {R:Value→World→Prop} {V:List PanicEntry→World→Prop}
  (h:(execOp (ev f) ⟨d,op,ty,pos,af,none⟩).run P w=.ok (.enter g args) w') (hc:Calls P g args w' (RP R V))
  (kp:∀ c w'',V c w''→K.p f c w'') (k:∀ v w'',R v w''→kQ P N ops K rest (kI f d v) w'') :
  kQ P N ops K (⟨d,op,ty,pos,af,none⟩ :: rest) f w:=by
 unfold kQ
 intro hok a ha
 have h1:=hok _ (List.mem_cons_self ..)
 refine wpList_plain rfl fun K' hK=>?_
 unfold Oper.wp
 rw [ha.xw,h]
 refine hc.mono fun e w'' he=>?_
 cases e with
 | returned v=>
  have:=k v w'' he
  unfold kQ at this
  exact hK _ _ (this (fun o ho=>hok o (List.mem_cons_of_mem _ ho)) _ (ha.put d (qF h1) v))
 | panicked c=>exact ⟨f,ha,kp c w'' he⟩
 | outgrown=>exact he.elim
theorem TR {w':World} {v:Value} (h:(execOp (ev f) ⟨d,op,ty,pos,af,none⟩).run P w=.halt (.panic v) w') (kp:K.p f [⟨v,false,false⟩] w') :
  kQ P N ops K (⟨d,op,ty,pos,af,none⟩ :: rest) f w:=by
 unfold kQ
 intro hok a ha
 refine wpList_plain rfl fun K' hK=>?_
 unfold Oper.wp
 rw [ha.xw,h]
 exact ⟨f,ha,kp⟩
theorem Ad {x:Operand} {t:TypeId} {v:Value} (hx:ev f x=.iface t v) (kp:K.p f [⟨.iface t v,false,false⟩] w):kQ P N ops K (⟨d,.panic x,ty,pos,af,none⟩ :: rest) f w:=
 TR (v:=.iface t v) (by simp [execOp,hx,Instr.panic,goPanic]) kp
end
section
variable {P:Program} {w:World} {ρ:Operand→Value} {d:Option Nat} {ty:TypeId} {pos:String} {af:Array Edge} {g:Option (Nat × Bool)}
def Rt (P:Program) (ρ:Operand→Value) (o:Oper) (w:World):Prop:=∃ w' v,(execOp ρ o).run P w=.halt (.panic (.iface P.rt.boundsError v)) w'∧(w'=w ∨ w'=w.drew)
theorem Nq {t e:TypeId} {x y:Operand} {n c:Nat} {k:IntKind} {i:Int} (ht:P.underlying t=some (.slice e)) {a:Option Addr} (hx:ρ x=.slice a n c)
  (hy:ρ y=.int k i) (hi:¬ (0≤i∧i < n)):Rt P ρ ⟨d,.indexAddr t x y,ty,pos,af,g⟩ w:=by
 have hb:∀ m:Int,∃ w' v,(boundsPanic (α:=Value) k i m .index).run P w=.halt (.panic (.iface P.rt.boundsError v)) w'∧(w'=w ∨ w'=w.drew):=fun m=>by
  unfold boundsPanic
  by_cases h:(k != .u64 && decide (0≤i) && decide (i≤31))=true
  · refine ⟨w.drew,?_⟩
    simp [h,runtimePanic,goPanic,Question.forced]
  · refine ⟨w,?_⟩
    simp [h,runtimePanic,goPanic]
 have h2:(execOp ρ ⟨d,.indexAddr t x y,ty,pos,af,g⟩).run P w=((boundsPanic (α:=Value) k i (if a=none then 0 else n) .index).run P w).andThen fun v w=>.ok (.value v) w:=by
  cases a with
  | none=>simp [execOp,hx,hy,Instr.indexAt,run_underlying ht,asIntOf]
  | some a=>simp [execOp,hx,hy,Instr.indexAt,run_underlying ht,asIntOf,hi]
 obtain ⟨w',v,h3,h4⟩:=hb (if a=none then 0 else n)
 exact ⟨w',v,by rw [h2,h3];rfl,h4⟩
end
section
variable {P:Program} {N:Fz} {ops:Array Oper} {S1 S:World→Prop} {T:List Nat} {K:KK} {f:Fr} {w:World} {n:Nat} {L:Array Bool}
theorem Qf {i:Nat} {oi:Oper} {w':World} {g:FuncId} {args:Array Value} {R:Value→World→Prop} {V:List PanicEntry→World→Prop} (hi:ops[i]?=some oi) (hw:sJ ops f oi.guard=true)
  (h:(execOp (ev f) oi).run P w=.ok (.enter g args) w') (hc:Calls P g args w' (RP R V)) (kp:∀ c w'',V c w''→∀ f,K.p f c w'')
  (k:∀ v w'',R v w''→D7 S1 T S (L.setIfInBounds i true) w''∧rE P N ops S1 S T K n (L.setIfInBounds i true) (kI f oi.dst v) w''):AR P N ops S1 S T K n L f w i:=by
 unfold AR
 intro hok hcl a ha
 have hd:uV N oi=true:=hok oi (by have:=Array.mem_of_getElem? hi;simpa using this)
 unfold wpOp
 simp only [hi]
 rw [if_pos (by rw [sU ha];exact hw)]
 left
 unfold Oper.wp
 rw [ha.xw,h]
 refine hc.mono fun e w'' he=>?_
 cases e with
 | returned v=>
  have h2:=(k v w'' he).2
  unfold rE at h2
  exact ⟨(k v w'' he).1,h2 hok hcl _ (ha.put _ (qF hd) v)⟩
 | panicked c=>exact ⟨f,ha,kp c w'' he⟩
 | outgrown=>exact he.elim
theorem Wt {i:Nat} {oi:Oper} {w':World} {v:Value} (hi:ops[i]?=some oi) (hw:sJ ops f oi.guard=true)
  (h:(execOp (ev f) oi).run P w=.halt (.panic v) w') (kp:∀ f,K.p f [⟨v,false,false⟩] w'):AR P N ops S1 S T K n L f w i:=by
 unfold AR
 intro hok hcl a ha
 unfold wpOp
 simp only [hi]
 rw [if_pos (by rw [sU ha];exact hw)]
 left
 unfold Oper.wp
 rw [ha.xw,h]
 exact ⟨f,ha,kp⟩
end
section
variable {P:Program} {N:Fz}
theorem vS {g:FuncId} {fn:Func} {c:Code} {args:Array Value} {w:World} {R:Value→World→Prop} {V:List PanicEntry→World→Prop}
   (hf:P.funcs[g]?=some fn) (hb:fn.body=some c)
   (h:WP P (fn.ntmps,[]) c ⟨Reads P fn R,fun _ _ _=>False,Reads P fn R,fun _ c w=>V c w⟩ (xS args) w)
   (hs:Nat.ble args.size fn.ntmps=true:=by exact rfl) (hok:CJ (fn.ntmps,[]) c=true:=by kernel_rfl):Calls P g args w (RP R V):=by
 have hs:=Nat.le_of_ble_eq_true hs
 unfold WP at h
 refine calls_of_wp hf hb (Code.wp_mono (fun e a w q=>?_) (h hok _ ⟨by simp;omega,fun t=>?_,rfl⟩))
 · cases e with
   | normal=>
     obtain ⟨f,h1,h2⟩:=q
     unfold Reads at h2
     obtain ⟨v,hv,hR⟩:=h2 a.tmps h1.get
     exact ⟨h1.dfr,v,hv,hR⟩
   | ret=>
     obtain ⟨f,h1,h2⟩:=q
     unfold Reads at h2
     obtain ⟨v,hv,hR⟩:=h2 a.tmps h1.get
     exact ⟨h1.dfr,v,hv,hR⟩
   | exit i=>obtain ⟨f,h1,h2⟩:=q;exact h2.elim
   | panic c=>obtain ⟨f,h1,h2⟩:=q;exact ⟨h1.dfr,h2⟩
   | _=>exact q.elim
 · unfold xS
   simp only [Array.getD_eq_getD_getElem?]
   rw [Array.getElem?_append]
   split
   · rfl
   · rename_i hlt
     rw [Array.getElem?_replicate]
     split
     · rw [Array.getElem?_eq_none (by omega)];rfl
     · rw [Array.getElem?_eq_none (by omega)]
theorem Av {args:Array Value} {n:Nat} (hs:args.size≤n):Ct (n,[]) (xS args) { tmps:=args ++ Array.replicate (n - args.size) undef,defers:=[] }:=by
 refine ⟨by simp;omega,fun t=>?_,rfl⟩
 unfold xS
 simp only [Array.getD_eq_getD_getElem?]
 rw [Array.getElem?_append]
 split
 · rfl
 · rename_i hlt
   rw [Array.getElem?_replicate]
   split
   · rw [Array.getElem?_eq_none (by omega)];rfl
   · rw [Array.getElem?_eq_none (by omega)]
def LU (P:Program) (N:Fz) (c:Code) (Q:Exit→Act→World→Prop) (f:Fr) (w:World):Prop:=CJ N c=true→∀ a,Ct N f a→c.wp P Q a w
theorem Uo {c:Code} {Q:Post} {Q':Exit→Act→World→Prop} {f:Fr} {w:World} (h:WP P N c Q f w) (k:∀ e a w,lift N Q e a w→Q' e a w):LU P N c Q' f w:=fun hok a ha=>by
 unfold WP at h
 exact Code.wp_mono (fun e a w q=>k e a w q) (h hok a ha)
theorem UA {x y:Code} {Q:Exit→Act→World→Prop} {X:Nat→Fr→World→Prop} {R:Fr→World→Prop} {V:Fr→List PanicEntry→World→Prop} {f:Fr} {w:World}
  (h:WP P N x ⟨fun f w=>LU P N y Q f w,X,R,V⟩ f w) (k:∀ e a w,lift N ⟨fun _ _=>False,X,R,V⟩ e a w→Q e a w):LU P N (.seq x y) Q f w:=fun hok a ha=>by
 unfold WP at h
 simp only [CJ,Bool.and_eq_true] at hok
 refine wp_seq (Code.wp_mono (fun e a w q=>?_) (h hok.1 a ha))
 cases e with
 | normal=>obtain ⟨f,h1,h2⟩:=q;exact h2 hok.2 a h1
 | _=>exact k _ a w q
theorem zi {n:Nat} {d e:List Deferred}:∀ (c:Code),CJ (n,d) c=true→CJ (n,e) c=true
 | .region _ _ _,h=>h
 | .seq a b,h=>by
  simp only [CJ,Bool.and_eq_true] at h ⊢
  exact ⟨zi a h.1,zi b h.2⟩
 | .cond _ a b,h=>by
  simp only [CJ,Bool.and_eq_true] at h ⊢
  exact ⟨zi a h.1,zi b h.2⟩
 | .block _ c,h=>zi c h
 | .loop c,h=>zi c h
 | .scope c,h=>zi c h
 | .skip,_=>rfl
 | .ret,_=>rfl
 | .exit _,_=>rfl
 | .rangeFunc _ _ _ _,_=>rfl
 | .label _,_=>rfl
 | .goto _,_=>rfl
 | .refuse _,_=>rfl
theorem Pf {i:Nat} {o1 o2:Oper} {y:Code} {Q:Exit→Act→World→Prop} {f:Fr} {w:World} {v:Value} {d:Deferred}
  (e1:(execOp (ev f) o1).run P w=.ok (.value v) w) (e2:(execOp (ev (kI f o1.dst v)) o2).run P w=.ok (.defer d) w)
  (k:LU P (N.1,d :: N.2) y Q (kI f o1.dst v) w) (h1:o1.guard=none:=by rfl) (h2:o2.guard=none:=by rfl) (h3:o2.dst=none:=by rfl) :
  LU P N (.seq (.region i #[o1,o2] false) y) Q f w:=fun hok a ha=>by
 simp only [CJ,Bool.and_eq_true] at hok
 have hd1:uV N o1=true:=by have:=hok.1;simp at this;exact this.1
 have hp:=ha.put o1.dst (qF hd1) v
 refine wp_seq (wp_region_lit (l:=[o1,o2]) ?_)
 refine wpList_plain h1 fun K1 hK1=>?_
 unfold Oper.wp
 rw [ha.xw,e1]
 refine hK1 _ _ (wpList_plain h2 fun K2 hK2=>?_)
 unfold Oper.wp
 rw [hp.xw,e2]
 refine hK2 _ _ (wpList_nil ?_)
 rw [h3]
 refine k (zi y hok.2) _ ⟨hp.size,hp.get,?_⟩
 show d :: (a.put o1.dst v).defers=d :: N.2
 rw [hp.dfr]
theorem Io {g:FuncId} {fn:Func} {c:Code} {args:Array Value} {w:World} {R:Ending→World→Prop}
  (hf:P.funcs[g]?=some fn) (hb:fn.body=some c) (h:LU P (fn.ntmps,[]) c (bodyPostD P fn R) (xS args) w)
  (hs:Nat.ble args.size fn.ntmps=true:=by exact rfl) (hok:CJ (fn.ntmps,[]) c=true:=by kernel_rfl):Calls P g args w R:=
 calls_of_wp_defers hf hb (h hok _ (Av (Nat.le_of_ble_eq_true hs)))
def Aw:FrameMode→Value × FrameMode
 | .panicking (⟨v,false,false⟩ :: l)=>(v,.panicking (⟨v,true,false⟩ :: l))
 | m=>(.nilIface,m)
def RD (u:FrameMode) (R:World→Prop) (V:List PanicEntry→World→Prop):Ending→FrameMode→World→Prop
 | .returned _,u',w=>u'=u∧R w
 | .panicked c,u',w=>u'=u∧V c w
 | .outgrown,_,_=>False
theorem YA {i:Nat} {o:Oper} {Q:Exit→Act→List Frame→World→Prop} {a:Act} {c:Frame} {cs:List Frame} {w:World} (hg:o.guard=none) (he:(execOp a.eval o).run P w=.ok .recover w)
  (k:Q .normal (a.put o.dst (Aw c.mode).1) ({ c with mode:=(Aw c.mode).2 } :: cs) w):(Code.region i #[o] false).wpS P Q a (c :: cs) w:=by
 refine wpS_region ?_
 show wpOpsS P #[o] Q [0] a (c :: cs) w
 simp only [wpOpsS,List.getElem?_toArray,List.getElem?_cons_zero,Region.wanted,hg,if_true,he]
 have e:∀ m,c.mode=m→({ c with mode:=m }:Frame)=c:=fun m h=>by subst h;rfl
 cases hm:c.mode with
 | panicking l=>
  cases l with
  | nil=>simp only [recoverD,hm];rw [hm] at k;simp only [Aw] at k;rw [e _ hm] at k;exact k
  | cons e l=>
   obtain ⟨v,r,g⟩:=e
   cases r <;> cases g <;> simp only [recoverD,hm] <;> (rw [hm] at k;simp only [Aw] at k;first | exact k | (rw [e _ hm] at k;exact k))
 | _=>simp only [recoverD,hm];rw [hm] at k;simp only [Aw] at k;rw [e _ hm] at k;exact k
theorem D5 {g:FuncId} {fn:Func} {i:Nat} {o:Oper} {y:Code} {args:Array Value} {u:FrameMode} {w:World} {R:World→Prop} {V:List PanicEntry→World→Prop}
  (hf:P.funcs[g]?=some fn) (hb:fn.body=some (.seq (.region i #[o] false) y)) (hr:fn.results=#[]) (he:(execOp (ev (xS args)) o).run P w=.ok .recover w)
  (h:WP P (fn.ntmps,[]) y ⟨fun _ w=>R w,fun _ _ _=>False,fun _ w=>R w,fun _ c w=>V c w⟩ (kI (xS args) o.dst (Aw u).1) w)
  (hg:o.guard=none:=by rfl) (hs:Nat.ble args.size fn.ntmps=true:=by exact rfl) (hok:CJ (fn.ntmps,[]) (.seq (.region i #[o] false) y)=true:=by kernel_rfl) :
  CallsD P g args u w (RD (Aw u).2 R V):=by
 refine callsD_of_wpS hf hb fun c cs hu=>?_
 subst hu
 simp only [CJ,Bool.and_eq_true] at hok
 have ha:=Av (Nat.le_of_ble_eq_true hs)
 have hd1:uV (fn.ntmps,[]) o=true:=by have:=hok.1;simp at this;exact this
 refine wpS_seq (YA hg (by rw [ha.xw];exact he) (wpS_of_wp ?_))
 unfold WP at h
 refine Code.wp_mono (fun e a w q=>?_) (h hok.2 _ (ha.put o.dst (qF hd1) _))
 cases e with
 | normal=>obtain ⟨f,h1,h2⟩:=q;exact ⟨h1.dfr,_,rfl,_,results_none hr _ P w,rfl,h2⟩
 | ret=>obtain ⟨f,h1,h2⟩:=q;exact ⟨h1.dfr,_,rfl,_,results_none hr _ P w,rfl,h2⟩
 | panic c=>obtain ⟨f,h1,h2⟩:=q;exact ⟨h1.dfr,_,rfl,rfl,h2⟩
 | exit i=>obtain ⟨f,h1,h2⟩:=q;exact h2.elim
 | _=>exact q.elim
theorem Ma {g:FuncId} {fn:Func} {i:Nat} {o:Oper} {y z:Code} {args:Array Value} {u:FrameMode} {w:World} {R:World→Prop} {V:List PanicEntry→World→Prop}
  (hf:P.funcs[g]?=some fn) (hb:fn.body=some (.seq (.seq (.region i #[o] false) y) z)) (hr:fn.results=#[]) (he:(execOp (ev (xS args)) o).run P w=.ok .recover w)
  (h:WP P (fn.ntmps,[]) y ⟨fun f w=>WP P (fn.ntmps,[]) z ⟨fun _ w=>R w,fun _ _ _=>False,fun _ w=>R w,fun _ c w=>V c w⟩ f w,fun _ _ _=>False,fun _ w=>R w,fun _ c w=>V c w⟩ (kI (xS args) o.dst (Aw u).1) w)
  (hg:o.guard=none:=by rfl) (hs:Nat.ble args.size fn.ntmps=true:=by exact rfl) (hok:CJ (fn.ntmps,[]) (.seq (.seq (.region i #[o] false) y) z)=true:=by kernel_rfl) :
  CallsD P g args u w (RD (Aw u).2 R V):=by
 refine callsD_of_wpS hf hb fun c cs hu=>?_
 subst hu
 simp only [CJ,Bool.and_eq_true] at hok
 have ha:=Av (Nat.le_of_ble_eq_true hs)
 have hd1:uV (fn.ntmps,[]) o=true:=by have:=hok.1.1;simp at this;exact this
 refine wpS_seq (wpS_seq (YA hg (by rw [ha.xw];exact he) (wpS_of_wp ?_)))
 unfold WP at h
 have fin:∀ (e:Exit) (a:Act) (w:World),lift (fn.ntmps,[]) ⟨fun _ w=>R w,fun _ _ _=>False,fun _ w=>R w,fun _ c w=>V c w⟩ e a w→bodyPostS P fn c cs (RD (Aw c.mode).2 R V) e a ({ c with mode:=(Aw c.mode).2 } :: cs) w:=fun e a w q=>by
  cases e with
  | normal=>obtain ⟨f,h1,h2⟩:=q;exact ⟨h1.dfr,_,rfl,_,results_none hr _ P w,rfl,h2⟩
  | ret=>obtain ⟨f,h1,h2⟩:=q;exact ⟨h1.dfr,_,rfl,_,results_none hr _ P w,rfl,h2⟩
  | panic c=>obtain ⟨f,h1,h2⟩:=q;exact ⟨h1.dfr,_,rfl,rfl,h2⟩
  | exit i=>obtain ⟨f,h1,h2⟩:=q;exact h2.elim
  | _=>exact q.elim
 refine Code.wp_mono (fun e a w q=>?_) (h hok.1.2 _ (ha.put o.dst (qF hd1) _))
 cases e with
 | normal=>
  obtain ⟨f,h1,h2⟩:=q
  exact wpS_of_wp (Code.wp_mono (fun e a w q=>fin e a w q) (h2 hok.2 _ h1))
 | ret=>exact fin .ret a w q
 | panic c=>exact fin (.panic c) a w q
 | exit i=>obtain ⟨f,h1,h2⟩:=q;exact h2.elim
 | _=>exact q.elim
end
end Go.Fw
set_option linter.unusedVariables false
namespace Go.Proofs.Ytfglbdkfnphjgaa
open Go.RowKit Go.Fw
def Es (f:BitVec 64→BitVec 64→BitVec 64) (a b:Int):Int:=wr (f (BitVec.ofInt 64 a) (BitVec.ofInt 64 b)).toNat
section
variable {P:Program} {w:World} {ρ:Operand→Value} {d:Option Nat} {ty:TypeId} {pos:String} {af:Array Edge} {g:Option (Nat × Bool)} {t t':TypeId} {x y:Operand} {a b:Int}
theorem Zd (hx:ρ x=V a) (hy:ρ y=V b):Yl P ρ (.binOp .and t x y t') d ty pos af g w (V (Es (· &&& ·) a b)):=by
 have h:Op.intBits .and .i64 a b=pure (V (Es (· &&& ·) a b)):=rfl
 simp [Yl,execOp,hx,hy,binOp,eqGuard,h]
theorem ZF (hx:ρ x=V a) (hy:ρ y=V b):Yl P ρ (.binOp .or t x y t') d ty pos af g w (V (Es (· ||| ·) a b)):=by
 have h:Op.intBits .or .i64 a b=pure (V (Es (· ||| ·) a b)):=rfl
 simp [Yl,execOp,hx,hy,binOp,eqGuard,h]
theorem Zb (hx:ρ x=V a) (hy:ρ y=V b):Yl P ρ (.binOp .xor t x y t') d ty pos af g w (V (Es (· ^^^ ·) a b)):=by
 have h:Op.intBits .xor .i64 a b=pure (V (Es (· ^^^ ·) a b)):=rfl
 simp [Yl,execOp,hx,hy,binOp,eqGuard,h]
theorem X8 (hx:ρ x=V a):Yl P ρ (.unOp .neg t x) d ty pos af g w (V (wr (0 - a))):=by
 simp [Yl,execOp,hx,Op.unary,Op.intArith,wr]
theorem Ju {v:Value} (h:∃ D,P.underlying t=some D∧(match D with | .interface _=>false | _=>true)=true) (hx:ρ x=v):Yl P ρ (.makeInterface t x) d ty pos af g w (.iface t v):=by
 obtain ⟨D,h1,h2⟩:=h
 cases D <;> simp_all [Yl,execOp,Instr.makeInterface,run_underlying h1]
end
section
variable {P:Program} {N:Fz} {ops:Array Oper} {K:KK} {rest:List Oper} {f:Fr} {w:World} {d:Option Nat} {ty:TypeId} {pos:String} {af:Array Edge}
theorem Xo {op:Op} {g:Nat × Bool} (h:sJ ops f (some g)=true) (k:kQ P N ops K (⟨d,op,ty,pos,af,none⟩ :: rest) f w):kQ P N ops K (⟨d,op,ty,pos,af,some g⟩ :: rest) f w:=kr h k
theorem YP {op:Op} {g:Nat × Bool} (h:sJ ops f (some g)=false) (k:kQ P N ops K rest (kI f d undef) w):kQ P N ops K (⟨d,op,ty,pos,af,some g⟩ :: rest) f w:=jJ h k
theorem YV {x:Operand} {p:Option Addr} (h:ev f x=.pointer p) (k:kQ P N ops K rest (kI f d (.pointer p)) w):kQ P N ops K (⟨d,(.move x),ty,pos,af,none⟩ :: rest) f w:=jS (vR h) k
theorem Zi {x:Operand} {n:Int} (h:ev f x=V n) (k:kQ P N ops K rest (kI f d (V n)) w):kQ P N ops K (⟨d,(.move x),ty,pos,af,none⟩ :: rest) f w:=jS (Mw h) k
theorem Zm {x:Operand} {p:Option Addr} {n m:Nat} (h:ev f x=.slice p n m) (k:kQ P N ops K rest (kI f d (.slice p n m)) w):kQ P N ops K (⟨d,(.move x),ty,pos,af,none⟩ :: rest) f w:=jS (l5 h) k
theorem Yb {x:Operand} {b:Bool} (h:ev f x=.bool b) (k:kQ P N ops K rest (kI f d (.bool b)) w):kQ P N ops K (⟨d,(.move x),ty,pos,af,none⟩ :: rest) f w:=jS (kL h) k
theorem Xw {x:Operand} {b:ByteArray} (h:ev f x=T b) (k:kQ P N ops K rest (kI f d (T b)) w):kQ P N ops K (⟨d,(.move x),ty,pos,af,none⟩ :: rest) f w:=jS (lg h) k
theorem aNl {x:Operand} {a:Addr} (h:ev f x=.pointer (some a)) (k:kQ P N ops K rest (kI f d (.pointer (some a))) w):kQ P N ops K (⟨d,(.nilCheck x),ty,pos,af,none⟩ :: rest) f w:=jS (U1 h) k
theorem YU {x:Operand} {n:Int} (h:ev f x=V n) (k:kQ P N ops K rest (kI f d (V n)) w):kQ P N ops K (⟨d,(.assign x),ty,pos,af,none⟩ :: rest) f w:=jS (QJ h) k
theorem Yv {x:Operand} {b:Bool} (h:ev f x=.bool b) (k:kQ P N ops K rest (kI f d (.bool b)) w):kQ P N ops K (⟨d,(.assign x),ty,pos,af,none⟩ :: rest) f w:=jS (kg h) k
theorem XY {x:Operand} {p:Option Addr} {n m:Nat} (h:ev f x=.slice p n m) (k:kQ P N ops K rest (kI f d (.slice p n m)) w):kQ P N ops K (⟨d,(.assign x),ty,pos,af,none⟩ :: rest) f w:=jS (mO h) k
theorem Yc {x:Operand} {p:Option Addr} (h:ev f x=.pointer p) (k:kQ P N ops K rest (kI f d (.pointer p)) w):kQ P N ops K (⟨d,(.assign x),ty,pos,af,none⟩ :: rest) f w:=jS (MU h) k
theorem Zj {x:Operand} {b:ByteArray} (h:ev f x=T b) (k:kQ P N ops K rest (kI f d (T b)) w):kQ P N ops K (⟨d,(.assign x),ty,pos,af,none⟩ :: rest) f w:=jS (mD h) k
theorem XM {t t':TypeId} {x y:Operand} {n m:Int} (h:ev f x=V n) (h2:ev f y=V m) (k:kQ P N ops K rest (kI f d (.bool (decide (n=m)))) w):kQ P N ops K (⟨d,(.binOp .eql t x y t'),ty,pos,af,none⟩ :: rest) f w:=jS (kH h h2) k
theorem X6 {t t':TypeId} {x y:Operand} {n m:Int} (h:ev f x=V n) (h2:ev f y=V m) (k:kQ P N ops K rest (kI f d (.bool (decide (n≠m)))) w):kQ P N ops K (⟨d,(.binOp .neq t x y t'),ty,pos,af,none⟩ :: rest) f w:=jS (p9 h h2) k
theorem YN {t t':TypeId} {x y:Operand} {n m:Int} (h:ev f x=V n) (h2:ev f y=V m) (k:kQ P N ops K rest (kI f d (.bool (decide (n < m)))) w):kQ P N ops K (⟨d,(.binOp .lss t x y t'),ty,pos,af,none⟩ :: rest) f w:=jS (pz h h2) k
theorem XO {t t':TypeId} {x y:Operand} {n m:Int} (h:ev f x=V n) (h2:ev f y=V m) (k:kQ P N ops K rest (kI f d (.bool (decide (n≤m)))) w):kQ P N ops K (⟨d,(.binOp .leq t x y t'),ty,pos,af,none⟩ :: rest) f w:=jS (MJ h h2) k
theorem Ze {t t':TypeId} {x y:Operand} {n m:Int} (h:ev f x=V n) (h2:ev f y=V m) (k:kQ P N ops K rest (kI f d (.bool (decide (m < n)))) w):kQ P N ops K (⟨d,(.binOp .gtr t x y t'),ty,pos,af,none⟩ :: rest) f w:=jS (uW h h2) k
theorem Zu {t t':TypeId} {x y:Operand} {n m:Int} (h:ev f x=V n) (h2:ev f y=V m) (k:kQ P N ops K rest (kI f d (.bool (decide (m≤n)))) w):kQ P N ops K (⟨d,(.binOp .geq t x y t'),ty,pos,af,none⟩ :: rest) f w:=jS (BL h h2) k
theorem Xv {x:Operand} {i:Nat} {vs:Array Value} {v:Value} (h:ev f x=.tuple vs) (h2:vs[i]?=some v) (k:kQ P N ops K rest (kI f d (v)) w):kQ P N ops K (⟨d,(.extract x i),ty,pos,af,none⟩ :: rest) f w:=jS (jV h h2) k
theorem Yp {t t':TypeId} {x y:Operand} {n m:Int} (h:ev f x=V n) (h2:ev f y=V m) (k:kQ P N ops K rest (kI f d (V (wr (n+m)))) w):kQ P N ops K (⟨d,(.binOp .add t x y t'),ty,pos,af,none⟩ :: rest) f w:=jS (kF h h2) k
theorem YE {t t':TypeId} {x y:Operand} {n m:Int} (h:ev f x=V n) (h2:ev f y=V m) (k:kQ P N ops K rest (kI f d (V (wr (n - m)))) w):kQ P N ops K (⟨d,(.binOp .sub t x y t'),ty,pos,af,none⟩ :: rest) f w:=jS (xO h h2) k
theorem Yi {t t':TypeId} {x y:Operand} {n m:Int} (h:ev f x=V n) (h2:ev f y=V m) (k:kQ P N ops K rest (kI f d (V (wr (n * m)))) w):kQ P N ops K (⟨d,(.binOp .mul t x y t'),ty,pos,af,none⟩ :: rest) f w:=jS (TS h h2) k
theorem XI {t t':TypeId} {x y:Operand} {n m:Int} (h:ev f x=V n) (h2:ev f y=V m) (k:kQ P N ops K rest (kI f d (V (Es (· &&& ·) n m))) w):kQ P N ops K (⟨d,(.binOp .and t x y t'),ty,pos,af,none⟩ :: rest) f w:=jS (Zd h h2) k
theorem aOr {t t':TypeId} {x y:Operand} {n m:Int} (h:ev f x=V n) (h2:ev f y=V m) (k:kQ P N ops K rest (kI f d (V (Es (· ||| ·) n m))) w):kQ P N ops K (⟨d,(.binOp .or t x y t'),ty,pos,af,none⟩ :: rest) f w:=jS (ZF h h2) k
theorem YL {t t':TypeId} {x y:Operand} {n m:Int} (h:ev f x=V n) (h2:ev f y=V m) (k:kQ P N ops K rest (kI f d (V (Es (· ^^^ ·) n m))) w):kQ P N ops K (⟨d,(.binOp .xor t x y t'),ty,pos,af,none⟩ :: rest) f w:=jS (Zb h h2) k
theorem Zc {t:TypeId} {x:Operand} {n:Int} (h:ev f x=V n) (k:kQ P N ops K rest (kI f d (V (wr (0 - n)))) w):kQ P N ops K (⟨d,(.unOp .neg t x),ty,pos,af,none⟩ :: rest) f w:=jS (X8 h) k
theorem Yh {c x y:Operand} {b:Bool} (h:ev f c=.bool true) (h2:ev f x=.bool b) (k:kQ P N ops K rest (kI f d (.bool b)) w):kQ P N ops K (⟨d,(.pick c x y),ty,pos,af,none⟩ :: rest) f w:=jS (kC h h2) k
theorem XA {c x y:Operand} {b:Bool} (h:ev f c=.bool false) (h2:ev f y=.bool b) (k:kQ P N ops K rest (kI f d (.bool b)) w):kQ P N ops K (⟨d,(.pick c x y),ty,pos,af,none⟩ :: rest) f w:=jS (jZ h h2) k
theorem Xq {t:TypeId} {x:Operand} {b:Bool} (h:ev f x=.bool b) (k:kQ P N ops K rest (kI f d (.bool (!b))) w):kQ P N ops K (⟨d,(.unOp .not t x),ty,pos,af,none⟩ :: rest) f w:=jS (zh h) k
end
section
variable {P:Program} {N:Fz} {Q:Post} {f:Fr} {w:World}
theorem qp {c:Operand} {x y:Code} {p:Prop} [Decidable p] (hc:ev f c=.bool (decide p)) (ht:p→WP P N x Q f w) (hf:¬ p→WP P N y Q f w):WP P N (.cond c x y) Q f w:=
 if h:p then jL (hc.trans (bt h)) (ht h) else jH (hc.trans (bf h)) (hf h)
end
theorem go {G R:Prop} (k:R) (h:R→G:=by
 intro k
 repeat (first
  | refine JO ?_
  | refine zV ?_
  | refine LY ?_
  | refine Fx ?_
  | refine oF ?_
  | refine YV rfl ?_
  | refine Zi rfl ?_
  | refine Zm rfl ?_
  | refine Yb rfl ?_
  | refine Xw rfl ?_
  | refine aNl rfl ?_
  | refine YU rfl ?_
  | refine Yv rfl ?_
  | refine XY rfl ?_
  | refine Yc rfl ?_
  | refine Zj rfl ?_
  | refine XM rfl rfl ?_
  | refine X6 rfl rfl ?_
  | refine YN rfl rfl ?_
  | refine XO rfl rfl ?_
  | refine Ze rfl rfl ?_
  | refine Zu rfl rfl ?_
  | refine Xv rfl rfl ?_
  | refine Yp rfl rfl ?_
  | refine YE rfl rfl ?_
  | refine Yi rfl rfl ?_
  | refine XI rfl rfl ?_
  | refine aOr rfl rfl ?_
  | refine YL rfl rfl ?_
  | refine Zc rfl ?_
  | refine Yh rfl rfl ?_
  | refine XA rfl rfl ?_
  | refine Xq rfl ?_
  | refine Xo rfl ?_
  | refine YP rfl ?_
  | refine jL rfl ?_
  | refine jH rfl ?_)
 exact k):G:=h k
def BJ (b:Bool):Int:=if b then 1 else 0
theorem Bh {b:Bool} {w:World}:Calls Try.prog 121 #[.bool b] w (qw fun v w'=>v=V (BJ b)∧w'=w):=by
 refine cf Try.func121 rfl ?_
 refine lI [(0,.bool b)] ⟨rfl,trivial⟩ fun av=>?_
 cases b with
 | true=>
  refine go ?_
  refine kR ?_
  exact jC rfl (kW rfl) ⟨rfl,rfl⟩
 | false=>
  refine go ?_
  refine kR ?_
  exact jC rfl (kW rfl) ⟨rfl,rfl⟩
end Go.Proofs.Ytfglbdkfnphjgaa
