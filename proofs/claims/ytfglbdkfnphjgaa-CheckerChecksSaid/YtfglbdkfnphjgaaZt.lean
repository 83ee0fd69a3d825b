/- Short words for the printed walks. -/
import Derived.Test.YtfglbdkfnphjgaaLt
set_option linter.unusedVariables false
namespace Go.Proofs.Ytfglbdkfnphjgaa
open Go.RowKit Go.Fw
noncomputable section
abbrev Z {α : Type} (a : Option Addr) (l : List α) (c : Nat) : Value := .slice a l.length c
abbrev V (n : Int) : Value := Vi n
abbrev T (n : ByteArray) : Value := Vt n
abbrev sz (α : Type) [Rp α] : Nat := Rp.sz α
abbrev O (e : Nat) (a : Option Addr) (c : Nat) (t : TypeId) (α : Type) [Rp α] (q : List (List Value)) : It := .own e a c t (Rp.sz α) q
theorem ca {α : Type} {a : α} {l m : List α} : a :: l ++ m = a :: (l ++ m) := rfl
theorem na {α : Type} {l : List α} : [] ++ l = l := rfl
theorem cb {a b : Bool} (h : a = b) : Value.bool a = .bool b := congrArg Value.bool h
theorem s : type_of% @RD := @RD
theorem q : type_of% @VA := @VA
theorem g : type_of% @TC := @TC
theorem n : type_of% @TT := @TT
theorem y : type_of% @trivial := @trivial
theorem mp : type_of% @Ti := @Ti
theorem mi : type_of% @Un := @Un
theorem xn : type_of% @Tv := @Tv
theorem xi : type_of% @Tt := @Tt
theorem wk : type_of% @QJ := @QJ
theorem sc : type_of% @QS := @QS
theorem ec : type_of% @QI := @QI
theorem iv : type_of% @kF := @kF
theorem tb : type_of% @Qr := @Qr
theorem mF : type_of% @LU := @LU
theorem oc : type_of% @Pj := @Pj
theorem oo : type_of% @TD := @TD
theorem os : type_of% @UN := @UN
theorem oN : type_of% @lm.nil := @lm.nil
abbrev BA := ByteArray
abbrev Gv := jA
abbrev Gi := ky
abbrev Ge := jL
abbrev Gs := jM
abbrev Gr := kD
abbrev Gn := kz
abbrev Gm := lK
abbrev Gc := jD
abbrev Gt := fV
theorem E8 : type_of% @Try.underlying3 := @Try.underlying3
theorem Um : type_of% @Try.underlying5 := @Try.underlying5
theorem uk : type_of% @Try.underlying9 := @Try.underlying9
theorem vz : type_of% @Try.underlying22 := @Try.underlying22
theorem Az : type_of% @Try.underlying23 := @Try.underlying23
theorem yM : type_of% @Try.underlying24 := @Try.underlying24
theorem Bw : type_of% @Try.underlying26 := @Try.underlying26
theorem AX : type_of% @Try.underlying27 := @Try.underlying27
theorem Ch : type_of% @Try.underlying28 := @Try.underlying28
theorem Gx : type_of% @Try.underlying30 := @Try.underlying30
theorem H8 : type_of% @Try.underlying59 := @Try.underlying59
theorem uX : type_of% @Try.underlying60 := @Try.underlying60
theorem R6 : type_of% @Try.underlying65 := @Try.underlying65
theorem kM : type_of% @Try.underlying70 := @Try.underlying70
theorem yC : type_of% @Try.underlying80 := @Try.underlying80
theorem Bu : type_of% @Try.underlying82 := @Try.underlying82
theorem CW : type_of% @Try.underlying97 := @Try.underlying97
theorem Fe : type_of% @Try.underlying105 := @Try.underlying105
theorem qN : type_of% @Try.underlying109 := @Try.underlying109
theorem lF : type_of% @Try.underlying111 := @Try.underlying111
theorem IL : type_of% @Try.underlying127 := @Try.underlying127
theorem mr : type_of% @Try.underlying138 := @Try.underlying138
theorem Cz : type_of% @Try.underlying143 := @Try.underlying143
theorem Ov : type_of% @Try.underlying174 := @Try.underlying174
theorem Mw : type_of% @Try.underlying187 := @Try.underlying187
section
variable {ρ : Operand → Value} {d : Option Nat} {ty : TypeId} {pos : String} {af : Array Edge} {g : Option (Nat × Bool)} {w : World} {x : Operand} {b o : Nat}
theorem wE (h : ρ x = .pointer (some ⟨b, o, none⟩)) : Yl Try.prog ρ (.fieldAddr 26 x 0) d ty pos af g w (.pointer (some ⟨b, o, none⟩)) := A7 Try.underlying26 rfl rfl SG (by decide) h
theorem vF (h : ρ x = .pointer (some ⟨b, o, none⟩)) : Yl Try.prog ρ (.fieldAddr 26 x 1) d ty pos af g w (.pointer (some ⟨b, o + 1, none⟩)) := qm (k := 1) Try.underlying26 rfl rfl PU (by decide) h
theorem zM (h : ρ x = .pointer (some ⟨b, o, none⟩)) : Yl Try.prog ρ (.fieldAddr 30 x 0) d ty pos af g w (.pointer (some ⟨b, o, none⟩)) := A7 Try.underlying30 rfl rfl uI (by decide) h
theorem vR (h : ρ x = .pointer (some ⟨b, o, none⟩)) : Yl Try.prog ρ (.fieldAddr 30 x 1) d ty pos af g w (.pointer (some ⟨b, o + 2, none⟩)) := qm (k := 2) Try.underlying30 rfl rfl RZ (by decide) h
theorem zO (h : ρ x = .pointer (some ⟨b, o, none⟩)) : Yl Try.prog ρ (.fieldAddr 30 x 2) d ty pos af g w (.pointer (some ⟨b, o + 3, none⟩)) := qm (k := 3) Try.underlying30 rfl rfl Sn (by decide) h
theorem Nc (h : ρ x = .pointer (some ⟨b, o, none⟩)) : Yl Try.prog ρ (.fieldAddr 59 x 0) d ty pos af g w (.pointer (some ⟨b, o, none⟩)) := A7 Try.underlying59 rfl rfl qc (by decide) h
theorem IX (h : ρ x = .pointer (some ⟨b, o, none⟩)) : Yl Try.prog ρ (.fieldAddr 59 x 1) d ty pos af g w (.pointer (some ⟨b, o + 1, none⟩)) := qm (k := 1) Try.underlying59 rfl rfl pI (by decide) h
theorem Nb (h : ρ x = .pointer (some ⟨b, o, none⟩)) : Yl Try.prog ρ (.fieldAddr 59 x 2) d ty pos af g w (.pointer (some ⟨b, o + 2, none⟩)) := qm (k := 2) Try.underlying59 rfl rfl pI (by decide) h
theorem ME (h : ρ x = .pointer (some ⟨b, o, none⟩)) : Yl Try.prog ρ (.fieldAddr 59 x 3) d ty pos af g w (.pointer (some ⟨b, o + 3, none⟩)) := qm (k := 3) Try.underlying59 rfl rfl pI (by decide) h
theorem Pq (h : ρ x = .pointer (some ⟨b, o, none⟩)) : Yl Try.prog ρ (.fieldAddr 59 x 5) d ty pos af g w (.pointer (some ⟨b, o + 5, none⟩)) := qm (k := 5) Try.underlying59 rfl rfl pI (by decide) h
theorem IR (h : ρ x = .pointer (some ⟨b, o, none⟩)) : Yl Try.prog ρ (.fieldAddr 59 x 6) d ty pos af g w (.pointer (some ⟨b, o + 6, none⟩)) := qm (k := 6) Try.underlying59 rfl rfl pI (by decide) h
theorem CR (h : ρ x = .pointer (some ⟨b, o, none⟩)) : Yl Try.prog ρ (.fieldAddr 82 x 0) d ty pos af g w (.pointer (some ⟨b, o, none⟩)) := A7 Try.underlying82 rfl rfl qc (by decide) h
theorem EM (h : ρ x = .pointer (some ⟨b, o, none⟩)) : Yl Try.prog ρ (.fieldAddr 82 x 1) d ty pos af g w (.pointer (some ⟨b, o + 1, none⟩)) := qm (k := 1) Try.underlying82 rfl rfl pI (by decide) h
theorem zB (h : ρ x = .pointer (some ⟨b, o, none⟩)) : Yl Try.prog ρ (.fieldAddr 82 x 2) d ty pos af g w (.pointer (some ⟨b, o + 2, none⟩)) := qm (k := 2) Try.underlying82 rfl rfl pJ (by decide) h
theorem Ab (h : ρ x = .pointer (some ⟨b, o, none⟩)) : Yl Try.prog ρ (.fieldAddr 82 x 3) d ty pos af g w (.pointer (some ⟨b, o + 3, none⟩)) := qm (k := 3) Try.underlying82 rfl rfl yF (by decide) h
theorem zJ (h : ρ x = .pointer (some ⟨b, o, none⟩)) : Yl Try.prog ρ (.fieldAddr 102 x 0) d ty pos af g w (.pointer (some ⟨b, o, none⟩)) := A7 Try.underlying102 rfl rfl Vu (by decide) h
theorem mP (h : ρ x = .pointer (some ⟨b, o, none⟩)) : Yl Try.prog ρ (.fieldAddr 102 x 1) d ty pos af g w (.pointer (some ⟨b, o + 1, none⟩)) := qm (k := 1) Try.underlying102 rfl rfl pI (by decide) h
theorem OB (h : ρ x = .pointer (some ⟨b, o, none⟩)) : Yl Try.prog ρ (.fieldAddr 102 x 2) d ty pos af g w (.pointer (some ⟨b, o + 2, none⟩)) := qm (k := 2) Try.underlying102 rfl rfl pI (by decide) h
theorem tJ (h : ρ x = .pointer (some ⟨b, o, none⟩)) : Yl Try.prog ρ (.fieldAddr 102 x 3) d ty pos af g w (.pointer (some ⟨b, o + 3, none⟩)) := qm (k := 3) Try.underlying102 rfl rfl PZ (by decide) h
theorem LC (h : ρ x = .pointer (some ⟨b, o, none⟩)) : Yl Try.prog ρ (.fieldAddr 107 x 0) d ty pos af g w (.pointer (some ⟨b, o, none⟩)) := A7 Try.underlying107 rfl rfl QN (by decide) h
theorem LD (h : ρ x = .pointer (some ⟨b, o, none⟩)) : Yl Try.prog ρ (.fieldAddr 107 x 1) d ty pos af g w (.pointer (some ⟨b, o + 1, none⟩)) := qm (k := 1) Try.underlying107 rfl rfl QN (by decide) h
theorem xK (h : ρ x = .pointer (some ⟨b, o, none⟩)) : Yl Try.prog ρ (.fieldAddr 107 x 2) d ty pos af g w (.pointer (some ⟨b, o + 2, none⟩)) := qm (k := 2) Try.underlying107 rfl rfl zH (by decide) h
theorem Mo (h : ρ x = .pointer (some ⟨b, o, none⟩)) : Yl Try.prog ρ (.fieldAddr 107 x 3) d ty pos af g w (.pointer (some ⟨b, o + 6, none⟩)) := qm (k := 6) Try.underlying107 rfl rfl EK (by decide) h
theorem Ad (h : ρ x = .pointer (some ⟨b, o, none⟩)) : Yl Try.prog ρ (.fieldAddr 107 x 4) d ty pos af g w (.pointer (some ⟨b, o + 7, none⟩)) := qm (k := 7) Try.underlying107 rfl rfl Bi (by decide) h
theorem Bp (h : ρ x = .pointer (some ⟨b, o, none⟩)) : Yl Try.prog ρ (.fieldAddr 107 x 5) d ty pos af g w (.pointer (some ⟨b, o + 8, none⟩)) := qm (k := 8) Try.underlying107 rfl rfl EK (by decide) h
theorem Ox (h : ρ x = .pointer (some ⟨b, o, none⟩)) : Yl Try.prog ρ (.fieldAddr 107 x 6) d ty pos af g w (.pointer (some ⟨b, o + 9, none⟩)) := qm (k := 9) Try.underlying107 rfl rfl pI (by decide) h
theorem DN (h : ρ x = .pointer (some ⟨b, o, none⟩)) : Yl Try.prog ρ (.fieldAddr 107 x 7) d ty pos af g w (.pointer (some ⟨b, o + 10, none⟩)) := qm (k := 10) Try.underlying107 rfl rfl pI (by decide) h
theorem uG (h : ρ x = .pointer (some ⟨b, o, none⟩)) : Yl Try.prog ρ (.fieldAddr 111 x 0) d ty pos af g w (.pointer (some ⟨b, o, none⟩)) := A7 Try.underlying111 rfl rfl pI (by decide) h
theorem xe (h : ρ x = .pointer (some ⟨b, o, none⟩)) : Yl Try.prog ρ (.fieldAddr 111 x 1) d ty pos af g w (.pointer (some ⟨b, o + 1, none⟩)) := qm (k := 1) Try.underlying111 rfl rfl pI (by decide) h
theorem CZ (h : ρ x = .pointer (some ⟨b, o, none⟩)) : Yl Try.prog ρ (.fieldAddr 111 x 2) d ty pos af g w (.pointer (some ⟨b, o + 2, none⟩)) := qm (k := 2) Try.underlying111 rfl rfl pI (by decide) h
theorem wZ (h : ρ x = .pointer (some ⟨b, o, none⟩)) : Yl Try.prog ρ (.fieldAddr 111 x 3) d ty pos af g w (.pointer (some ⟨b, o + 3, none⟩)) := qm (k := 3) Try.underlying111 rfl rfl qc (by decide) h
theorem Bq (h : ρ x = .pointer (some ⟨b, o, none⟩)) : Yl Try.prog ρ (.fieldAddr 111 x 4) d ty pos af g w (.pointer (some ⟨b, o + 4, none⟩)) := qm (k := 4) Try.underlying111 rfl rfl qc (by decide) h
theorem zL (h : ρ x = .pointer (some ⟨b, o, none⟩)) : Yl Try.prog ρ (.fieldAddr 111 x 5) d ty pos af g w (.pointer (some ⟨b, o + 5, none⟩)) := qm (k := 5) Try.underlying111 rfl rfl pI (by decide) h
theorem Dm (h : ρ x = .pointer (some ⟨b, o, none⟩)) : Yl Try.prog ρ (.fieldAddr 111 x 6) d ty pos af g w (.pointer (some ⟨b, o + 6, none⟩)) := qm (k := 6) Try.underlying111 rfl rfl pI (by decide) h
theorem uq (h : ρ x = .pointer (some ⟨b, o, none⟩)) : Yl Try.prog ρ (.fieldAddr 111 x 7) d ty pos af g w (.pointer (some ⟨b, o + 7, none⟩)) := qm (k := 7) Try.underlying111 rfl rfl ul (by decide) h
theorem Ae (h : ρ x = .pointer (some ⟨b, o, none⟩)) : Yl Try.prog ρ (.fieldAddr 111 x 8) d ty pos af g w (.pointer (some ⟨b, o + 8, none⟩)) := qm (k := 8) Try.underlying111 rfl rfl qc (by decide) h
theorem Ef (h : ρ x = .pointer (some ⟨b, o, none⟩)) : Yl Try.prog ρ (.fieldAddr 111 x 9) d ty pos af g w (.pointer (some ⟨b, o + 9, none⟩)) := qm (k := 9) Try.underlying111 rfl rfl pI (by decide) h
theorem qA (h : ρ x = .pointer (some ⟨b, o, none⟩)) : Yl Try.prog ρ (.fieldAddr 111 x 10) d ty pos af g w (.pointer (some ⟨b, o + 10, none⟩)) := qm (k := 10) Try.underlying111 rfl rfl ul (by decide) h
theorem tO (h : ρ x = .pointer (some ⟨b, o, none⟩)) : Yl Try.prog ρ (.fieldAddr 111 x 11) d ty pos af g w (.pointer (some ⟨b, o + 11, none⟩)) := qm (k := 11) Try.underlying111 rfl rfl yF (by decide) h
theorem uj (h : ρ x = .pointer (some ⟨b, o, none⟩)) : Yl Try.prog ρ (.fieldAddr 111 x 12) d ty pos af g w (.pointer (some ⟨b, o + 12, none⟩)) := qm (k := 12) Try.underlying111 rfl rfl yF (by decide) h
theorem qM (h : ρ x = .pointer (some ⟨b, o, none⟩)) : Yl Try.prog ρ (.fieldAddr 115 x 0) d ty pos af g w (.pointer (some ⟨b, o, none⟩)) := A7 Try.underlying115 rfl rfl zH (by decide) h
theorem AO (h : ρ x = .pointer (some ⟨b, o, none⟩)) : Yl Try.prog ρ (.fieldAddr 115 x 1) d ty pos af g w (.pointer (some ⟨b, o + 4, none⟩)) := qm (k := 4) Try.underlying115 rfl rfl pI (by decide) h
theorem AY (h : ρ x = .pointer (some ⟨b, o, none⟩)) : Yl Try.prog ρ (.fieldAddr 115 x 2) d ty pos af g w (.pointer (some ⟨b, o + 5, none⟩)) := qm (k := 5) Try.underlying115 rfl rfl EK (by decide) h
theorem NL (h : ρ x = .pointer (some ⟨b, o, none⟩)) : Yl Try.prog ρ (.fieldAddr 115 x 3) d ty pos af g w (.pointer (some ⟨b, o + 6, none⟩)) := qm (k := 6) Try.underlying115 rfl rfl pI (by decide) h
theorem zI (h : ρ x = .pointer (some ⟨b, o, none⟩)) : Yl Try.prog ρ (.fieldAddr 115 x 4) d ty pos af g w (.pointer (some ⟨b, o + 7, none⟩)) := qm (k := 7) Try.underlying115 rfl rfl PZ (by decide) h
theorem BS (h : ρ x = .pointer (some ⟨b, o, none⟩)) : Yl Try.prog ρ (.fieldAddr 127 x 0) d ty pos af g w (.pointer (some ⟨b, o, none⟩)) := A7 Try.underlying127 rfl rfl qc (by decide) h
theorem ww (h : ρ x = .pointer (some ⟨b, o, none⟩)) : Yl Try.prog ρ (.fieldAddr 127 x 1) d ty pos af g w (.pointer (some ⟨b, o + 1, none⟩)) := qm (k := 1) Try.underlying127 rfl rfl pJ (by decide) h
theorem LW (h : ρ x = .pointer (some ⟨b, o, none⟩)) : Yl Try.prog ρ (.fieldAddr 132 x 0) d ty pos af g w (.pointer (some ⟨b, o, none⟩)) := A7 Try.underlying132 rfl rfl EK (by decide) h
theorem Gq (h : ρ x = .pointer (some ⟨b, o, none⟩)) : Yl Try.prog ρ (.fieldAddr 132 x 1) d ty pos af g w (.pointer (some ⟨b, o + 1, none⟩)) := qm (k := 1) Try.underlying132 rfl rfl pI (by decide) h
theorem qj (h : ρ x = .pointer (some ⟨b, o, none⟩)) : Yl Try.prog ρ (.fieldAddr 135 x 0) d ty pos af g w (.pointer (some ⟨b, o, none⟩)) := A7 Try.underlying135 rfl rfl Td (by decide) h
theorem Sb (h : ρ x = .pointer (some ⟨b, o, none⟩)) : Yl Try.prog ρ (.fieldAddr 135 x 1) d ty pos af g w (.pointer (some ⟨b, o + 1, none⟩)) := qm (k := 1) Try.underlying135 rfl rfl pI (by decide) h
theorem Mm (h : ρ x = .pointer (some ⟨b, o, none⟩)) : Yl Try.prog ρ (.fieldAddr 135 x 2) d ty pos af g w (.pointer (some ⟨b, o + 2, none⟩)) := qm (k := 2) Try.underlying135 rfl rfl pI (by decide) h
theorem Q6 (h : ρ x = .pointer (some ⟨b, o, none⟩)) : Yl Try.prog ρ (.fieldAddr 135 x 3) d ty pos af g w (.pointer (some ⟨b, o + 3, none⟩)) := qm (k := 3) Try.underlying135 rfl rfl EK (by decide) h
theorem nI (h : ρ x = .pointer (some ⟨b, o, none⟩)) : Yl Try.prog ρ (.fieldAddr 135 x 4) d ty pos af g w (.pointer (some ⟨b, o + 4, none⟩)) := qm (k := 4) Try.underlying135 rfl rfl pJ (by decide) h
theorem qY (h : ρ x = .pointer (some ⟨b, o, none⟩)) : Yl Try.prog ρ (.fieldAddr 135 x 5) d ty pos af g w (.pointer (some ⟨b, o + 5, none⟩)) := qm (k := 5) Try.underlying135 rfl rfl pJ (by decide) h
theorem sW (h : ρ x = .pointer (some ⟨b, o, none⟩)) : Yl Try.prog ρ (.fieldAddr 135 x 6) d ty pos af g w (.pointer (some ⟨b, o + 6, none⟩)) := qm (k := 6) Try.underlying135 rfl rfl pJ (by decide) h
theorem EH (h : ρ x = .pointer (some ⟨b, o, none⟩)) : Yl Try.prog ρ (.fieldAddr 135 x 7) d ty pos af g w (.pointer (some ⟨b, o + 7, none⟩)) := qm (k := 7) Try.underlying135 rfl rfl pI (by decide) h
theorem Ma (h : ρ x = .pointer (some ⟨b, o, none⟩)) : Yl Try.prog ρ (.fieldAddr 135 x 8) d ty pos af g w (.pointer (some ⟨b, o + 8, none⟩)) := qm (k := 8) Try.underlying135 rfl rfl pI (by decide) h
theorem wz (h : ρ x = .pointer (some ⟨b, o, none⟩)) : Yl Try.prog ρ (.fieldAddr 138 x 0) d ty pos af g w (.pointer (some ⟨b, o, none⟩)) := A7 Try.underlying138 rfl rfl pI (by decide) h
theorem BZ (h : ρ x = .pointer (some ⟨b, o, none⟩)) : Yl Try.prog ρ (.fieldAddr 138 x 1) d ty pos af g w (.pointer (some ⟨b, o + 1, none⟩)) := qm (k := 1) Try.underlying138 rfl rfl pI (by decide) h
theorem Ha (h : ρ x = .pointer (some ⟨b, o, none⟩)) : Yl Try.prog ρ (.fieldAddr 138 x 2) d ty pos af g w (.pointer (some ⟨b, o + 2, none⟩)) := qm (k := 2) Try.underlying138 rfl rfl pI (by decide) h
theorem Dn (h : ρ x = .pointer (some ⟨b, o, none⟩)) : Yl Try.prog ρ (.fieldAddr 138 x 3) d ty pos af g w (.pointer (some ⟨b, o + 3, none⟩)) := qm (k := 3) Try.underlying138 rfl rfl qc (by decide) h
theorem Hm (h : ρ x = .pointer (some ⟨b, o, none⟩)) : Yl Try.prog ρ (.fieldAddr 138 x 4) d ty pos af g w (.pointer (some ⟨b, o + 4, none⟩)) := qm (k := 4) Try.underlying138 rfl rfl qc (by decide) h
theorem yI (h : ρ x = .pointer (some ⟨b, o, none⟩)) : Yl Try.prog ρ (.fieldAddr 138 x 5) d ty pos af g w (.pointer (some ⟨b, o + 5, none⟩)) := qm (k := 5) Try.underlying138 rfl rfl ul (by decide) h
theorem L6 (h : ρ x = .pointer (some ⟨b, o, none⟩)) : Yl Try.prog ρ (.fieldAddr 143 x 0) d ty pos af g w (.pointer (some ⟨b, o, none⟩)) := A7 Try.underlying143 rfl rfl pI (by decide) h
theorem Jz (h : ρ x = .pointer (some ⟨b, o, none⟩)) : Yl Try.prog ρ (.fieldAddr 143 x 1) d ty pos af g w (.pointer (some ⟨b, o + 1, none⟩)) := qm (k := 1) Try.underlying143 rfl rfl pI (by decide) h
theorem JN (h : ρ x = .pointer (some ⟨b, o, none⟩)) : Yl Try.prog ρ (.fieldAddr 143 x 2) d ty pos af g w (.pointer (some ⟨b, o + 2, none⟩)) := qm (k := 2) Try.underlying143 rfl rfl qc (by decide) h
theorem OM (h : ρ x = .pointer (some ⟨b, o, none⟩)) : Yl Try.prog ρ (.fieldAddr 143 x 3) d ty pos af g w (.pointer (some ⟨b, o + 3, none⟩)) := qm (k := 3) Try.underlying143 rfl rfl pI (by decide) h
theorem l3 {t : TypeId} {cs : Array Value} {v : Value} (h : ρ x = .pointer (some ⟨b, o, none⟩)) (hb : yu w b t cs) (hi : cs[o]? = some v) : Yl Try.prog ρ (.load 3 x) d ty pos af g w v := kC Try.underlying3 rfl h (hb.cell hi)
theorem l4 {t : TypeId} {cs : Array Value} {v : Value} (h : ρ x = .pointer (some ⟨b, o, none⟩)) (hb : yu w b t cs) (hi : cs[o]? = some v) : Yl Try.prog ρ (.load 4 x) d ty pos af g w v := kC Try.underlying4 rfl h (hb.cell hi)
theorem l9 {t : TypeId} {cs : Array Value} {v : Value} (h : ρ x = .pointer (some ⟨b, o, none⟩)) (hb : yu w b t cs) (hi : cs[o]? = some v) : Yl Try.prog ρ (.load 9 x) d ty pos af g w v := kC Try.underlying9 rfl h (hb.cell hi)
theorem Ki {t : TypeId} {cs : Array Value} {v : Value} (h : ρ x = .pointer (some ⟨b, o, none⟩)) (hb : yu w b t cs) (hi : cs[o]? = some v) : Yl Try.prog ρ (.load 22 x) d ty pos af g w v := kC Try.underlying22 rfl h (hb.cell hi)
theorem JS {t : TypeId} {cs : Array Value} {v : Value} (h : ρ x = .pointer (some ⟨b, o, none⟩)) (hb : yu w b t cs) (hi : cs[o]? = some v) : Yl Try.prog ρ (.load 23 x) d ty pos af g w v := kC Try.underlying23 rfl h (hb.cell hi)
theorem Ij {t : TypeId} {cs : Array Value} {v : Value} (h : ρ x = .pointer (some ⟨b, o, none⟩)) (hb : yu w b t cs) (hi : cs[o]? = some v) : Yl Try.prog ρ (.load 24 x) d ty pos af g w v := kC Try.underlying24 rfl h (hb.cell hi)
theorem Hy {t : TypeId} {cs : Array Value} {v : Value} (h : ρ x = .pointer (some ⟨b, o, none⟩)) (hb : yu w b t cs) (hi : cs[o]? = some v) : Yl Try.prog ρ (.load 27 x) d ty pos af g w v := kC Try.underlying27 rfl h (hb.cell hi)
theorem Ms {t : TypeId} {cs : Array Value} {v : Value} (h : ρ x = .pointer (some ⟨b, o, none⟩)) (hb : yu w b t cs) (hi : cs[o]? = some v) : Yl Try.prog ρ (.load 28 x) d ty pos af g w v := kC Try.underlying28 rfl h (hb.cell hi)
theorem CU {t : TypeId} {cs : Array Value} {v : Value} (h : ρ x = .pointer (some ⟨b, o, none⟩)) (hb : yu w b t cs) (hi : cs[o]? = some v) : Yl Try.prog ρ (.load 37 x) d ty pos af g w v := kC Try.underlying37 rfl h (hb.cell hi)
theorem Qc {t : TypeId} {cs : Array Value} {v : Value} (h : ρ x = .pointer (some ⟨b, o, none⟩)) (hb : yu w b t cs) (hi : cs[o]? = some v) : Yl Try.prog ρ (.load 60 x) d ty pos af g w v := kC Try.underlying60 rfl h (hb.cell hi)
theorem yE {t : TypeId} {cs : Array Value} {v : Value} (h : ρ x = .pointer (some ⟨b, o, none⟩)) (hb : yu w b t cs) (hi : cs[o]? = some v) : Yl Try.prog ρ (.load 70 x) d ty pos af g w v := kC Try.underlying70 rfl h (hb.cell hi)
theorem FO {t : TypeId} {cs : Array Value} {v : Value} (h : ρ x = .pointer (some ⟨b, o, none⟩)) (hb : yu w b t cs) (hi : cs[o]? = some v) : Yl Try.prog ρ (.load 80 x) d ty pos af g w v := kC Try.underlying80 rfl h (hb.cell hi)
theorem NJ {t : TypeId} {cs : Array Value} {v : Value} (h : ρ x = .pointer (some ⟨b, o, none⟩)) (hb : yu w b t cs) (hi : cs[o]? = some v) : Yl Try.prog ρ (.load 97 x) d ty pos af g w v := kC Try.underlying97 rfl h (hb.cell hi)
theorem NE {t : TypeId} {cs : Array Value} {v : Value} (h : ρ x = .pointer (some ⟨b, o, none⟩)) (hb : yu w b t cs) (hi : cs[o]? = some v) : Yl Try.prog ρ (.load 105 x) d ty pos af g w v := kC Try.underlying105 rfl h (hb.cell hi)
theorem xh {t : TypeId} {cs : Array Value} {v : Value} (h : ρ x = .pointer (some ⟨b, o, none⟩)) (hb : yu w b t cs) (hi : cs[o]? = some v) : Yl Try.prog ρ (.load 109 x) d ty pos af g w v := kC Try.underlying109 rfl h (hb.cell hi)
theorem yB {t : TypeId} {cs : Array Value} {v : Value} (h : ρ x = .pointer (some ⟨b, o, none⟩)) (hb : yu w b t cs) (hi : cs[o]? = some v) : Yl Try.prog ρ (.load 130 x) d ty pos af g w v := kC Try.underlying130 rfl h (hb.cell hi)
end
section
variable {P : Program} {N : Nat} {ops : Array Oper} {f : Fr} {w w0 : World} {n : Nat} {K : Fr → World → Prop} {Lb : Array Bool} {T : List Nat} {Y G : Nat → Prop} {L : List It} {D : List Da} {S1 S : World → Prop}
theorem pF (i : Nat) {oi : Oper} {v : Value} (hi : ops[i]? = some oi) (hy : ∀ {w : World}, (execOp (ev f) oi).run P w = .ok (.value v) w) (hs : S1 w)
 (k : vC P N ops S1 (fun _ => True) T K n (Lb.setIfInBounds i true) (zK f oi.dst v) w) (hw : wO ops f oi.guard = true := by exact rfl) (hc : may ops T Lb i = true := by kernel_rfl) : vC P N ops S1 (fun _ => True) T K (n + 1) Lb f w := tP i hi (fun _ => hy) (sF hs) k hw hc
theorem pL (i : Nat) {oi : Oper} {v : Value} (hi : ops[i]? = some oi) (hy : ∀ {w : World}, (execOp (ev f) oi).run P w = .ok (.value v) w) (hs : S1 w) (hu : S w)
 (k : vC P N ops S1 S T K n (Lb.setIfInBounds i true) (zK f oi.dst v) w) (hw : wO ops f oi.guard = true := by exact rfl) (hc : may ops T Lb i = true := by kernel_rfl) : vC P N ops S1 S T K (n + 1) Lb f w := tP i hi (fun _ => hy) (LU hs hu) k hw hc
theorem uF (i : Nat) {oi : Oper} {v : Value} (hi : ops[i]? = some oi) (hy : ∀ {w : World}, S1 w → (execOp (ev f) oi).run P w = .ok (.value v) w) (hs : S1 w)
 (k : vC P N ops S1 (fun _ => True) T K n (Lb.setIfInBounds i true) (zK f oi.dst v) w) (hw : wO ops f oi.guard = true := by exact rfl) (hc : may ops T Lb i = true := by kernel_rfl) : vC P N ops S1 (fun _ => True) T K (n + 1) Lb f w := tU i hi (fun _ => hy) (sF hs) k hw hc
theorem hO (i : Nat) (h : Dx P N ops S1 S T K n Lb f w i) (hr : Region.ready .any ops Lb = [i] := by kernel_rfl) : vC P N ops S1 S T K (n + 1) Lb f w := TY i hr h
theorem hD (h : K f w) (hr : Region.ready .any ops Lb = [] := by kernel_rfl) : vC P N ops S1 S T K n Lb f w := SS hr h
theorem sy (t : Nat) (h1 : S1 w) (h : (T.contains t && Lb.getD t false) = true := by kernel_rfl) : ET S1 T S Lb w := N7 t h1 h
theorem cf {g : FuncId} {fn : Func} {c : Code} {args : Array Value} {R : Value → World → Prop} (hf : P.funcs[g]? = some fn) (hb : fn.body = some c)
 (h : WP P fn.ntmps c { n := Reads P fn R, x := fun _ _ _ => False, r := Reads P fn R } (Mi args) w) (hs : Nat.ble args.size fn.ntmps = true := by exact rfl) (hok : MV fn.ntmps c = true := by kernel_rfl) : Calls P g args w (rA R) := NY hf hb (Nat.le_of_ble_eq_true hs) hok h
end
end
end Go.Proofs.Ytfglbdkfnphjgaa
namespace Go.Fw
theorem Bx.ad {w0 w : World} {Y G : Nat → Prop} {L : List It} {D : List Da} (h : Bx w0 w Y G L D) (l m : List Nat) (hn : nodup l = true := by exact rfl) : Bx w0 w Y G (pick L l) (pick D m) := (h.arr l hn).dp m
theorem Bx.le {w0 w : World} {Y G : Nat → Prop} {L : List It} {D : List Da} {e : Nat} (h : Bx w0 w Y G L D) (k : e ≤ w0.heap.size) : e ≤ w.heap.size := Nat.le_trans k h.rM.size
theorem lV {α β γ:Type} {o:Option (α × β)} {f:α→β→Option γ} {X:γ} (h:(o.bind fun x=>iA x f)=some X):∃ a b,o=some (a,b)∧f a b=some X:=by
 obtain ⟨⟨a,b⟩,h1,h2⟩:=bs h
 exact ⟨a,b,h1,h2⟩
theorem qC {α β γ δ:Type} {o:Option (α × β × γ)} {f:α→β→γ→Option δ} {X:δ} (h:(o.bind fun x=>iA x fun a y=>iA y (f a))=some X):∃ a b c,o=some (a,b,c)∧f a b c=some X:=by
 obtain ⟨⟨a,b,c⟩,h1,h2⟩:=bs h
 exact ⟨a,b,c,h1,h2⟩
theorem UB {α β γ δ ε:Type} {o:Option (α × β × γ × δ)} {f:α→β→γ→δ→Option ε} {X:ε} (h:(o.bind fun x=>iA x fun a y=>iA y fun b z=>iA z (f a b))=some X):∃ a b c d,o=some (a,b,c,d)∧f a b c d=some X:=by
 obtain ⟨⟨a,b,c,d⟩,h1,h2⟩:=bs h
 exact ⟨a,b,c,d,h1,h2⟩
theorem Au {α β γ δ:Type} {a:α} {b:β} {c:γ} {f:α→β→γ→δ} {X:δ} (h:iA (a,b,c) (fun x y=>iA y (f x))=X):f a b c=X:=h
theorem mf {α β γ ε δ:Type} {a:α} {b:β} {c:γ} {d:ε} {f:α→β→γ→ε→δ} {X:δ} (h:iA (a,b,c,d) (fun x y=>iA y fun u v=>iA v (f x u))=X):f a b c d=X:=h
section
variable {P:Program} {N:Nat} {ops:Array Oper} {K:Fr→World→Prop} {rest:List Oper} {f:Fr} {w w0:World} {d:Option Nat} {op:Op} {ty:TypeId} {pos:String} {af:Array Edge} {Z G:Nat→Prop} {L:List It} {D:List Da}
theorem tH (h:Bx w0 w Z G L D) {t:TypeId} {cs:Array Value} (e:(execOp (ev f) ⟨d,op,ty,pos,af,none⟩).run P w=.ok (.value (.pointer (some ⟨w.heap.size,0,none⟩))) (w.alloc (.cells cs t))) (k:∀ w' b,Bx w0 w' Z G (.box b t cs :: L) D→Jk P N ops K rest (zK f d (.pointer (some ⟨b,0,none⟩))) w'):Jk P N ops K (⟨d,op,ty,pos,af,none⟩ :: rest) f w:=qE (rF h e) (by rintro _ w' ⟨b,rfl,h⟩;exact k w' b h)
end
def Qq:List Value→Nat→List Value→List Value
 | [],_,_=>[]
 | a :: l,0,[]=>a :: l
 | _ :: l,0,v :: m=>v :: Qq l 0 m
 | a :: l,n+1,m=>a :: Qq l n m
theorem LG:∀ (l:List Value) (o:Nat) (m:List Value),o+m.length≤l.length→Qq l o m=l.take o ++ m ++ l.drop (o+m.length)
 | [],o,m,h=>by
  have h1:m=[]:=List.length_eq_zero_iff.1 (by simp only [List.length_nil] at h;omega)
  subst h1;simp [Qq]
 | a :: l,0,[],_=>by simp [Qq]
 | a :: l,0,v :: m,h=>by
  have:=LG l 0 m (by simp only [List.length_cons] at h;omega)
  simp only [Qq,this];simp
 | a :: l,n+1,m,h=>by
  have:=LG l n m (by simp only [List.length_cons] at h;omega)
  rw [Qq,this,show n+1+m.length=(n+m.length)+1 by omega];simp
section
variable {P:Program} {ρ:Operand→Value} {w w' w0:World} {d:Option Nat} {ty:TypeId} {pos:String} {af:Array Edge} {g:Option (Nat × Bool)} {Z G:Nat→Prop} {L L' L1 Lc:List It} {D D' D1:List Da}
theorem nE (hL:Bx w0 w Z G L D) (i:Nat) {t te:TypeId} {x y:Operand} {z:Value} {s by_ b:Nat} {old:Array Value} (vs:List Value) (hi:L[i]?=some (.box b te old)) (ht:TI P t z s by_)
  (hx:ρ x=.pointer (some ⟨b,0,none⟩)) (hy:(ρ y).cells=vs.toArray) (e:L.set i (.box b te vs.toArray)=L':=by (try dsimp only [List.set]);all_goals exact rfl) (hs:s=vs.length:=by exact rfl) (h1:vs.all (fun v=>v.oneCell')=true:=by exact rfl) (hl:Nat.beq vs.length old.size=true:=by exact rfl) :
  QB P ρ ⟨d,.store t x y,ty,pos,af,g⟩ w fun w'=>Bx w0 w' Z G L' D:=by
 have h:=Nat.eq_of_beq_eq_true hl
 subst e
 refine Qr hL i vs hi ht hs hx hy h1 (Nat.ble_eq_true_of_le (by rw [Nat.zero_add,h];exact Nat.le_refl _)) ?_
 rw [Nat.zero_add,List.take_zero,List.nil_append,List.drop_eq_nil_of_le (by rw [h];simp),List.append_nil]
theorem lW (hL:Bx w0 w Z G L D) (i:Nat) {t te:TypeId} {x y:Operand} {z:Value} {s by_ b o:Nat} {old cs':List Value} (vs:List Value) (hi:L[i]?=some (.box b te old.toArray)) (ht:TI P t z s by_)
  (hx:ρ x=.pointer (some ⟨b,o,none⟩)) (hy:(ρ y).cells=vs.toArray) (hc:Qq old o vs=cs':=by (try dsimp only [Qq]);all_goals exact rfl) (e:L.set i (.box b te cs'.toArray)=L':=by (try dsimp only [List.set]);all_goals exact rfl) (hs:s=vs.length:=by exact rfl) (h1:vs.all (fun v=>v.oneCell')=true:=by exact rfl) (hl:Nat.ble (o+vs.length) old.length=true:=by exact rfl) :
  QB P ρ ⟨d,.store t x y,ty,pos,af,g⟩ w fun w'=>Bx w0 w' Z G L' D:=by
 have h:=Nat.le_of_ble_eq_true hl
 subst e hc
 refine Qr hL i vs hi ht hs hx hy h1 (Nat.ble_eq_true_of_le (by simpa using h)) ?_
 rw [LG _ _ _ h]
theorem Bx.cn (h:Bx w0 w Z G L D) (i r:List Nat) (k:Bx w w' (GM w0 Z (pick L i ++ pick L r)) (lT Lc) L1 D1) (hL:L1 ++ pick L r=L':=by (try dsimp only [pick,nth,List.cons_append,List.nil_append]);all_goals exact rfl) (hD:D1 ++ D=D':=by (try dsimp only [List.cons_append,List.nil_append]);all_goals exact rfl) (e:pick L i=Lc:=by exact rfl) (hn:nodup (i ++ r)=true:=by exact rfl):Bx w0 w' Z G L' D':=by
 subst hL hD
 exact h.cl i r hn k e
theorem Bx.fz (h:Bx w0 w Z G L D) (i j:Nat) {α:Type} [Rp α] {e:TypeId} {A:Option Addr} {c:Nat} {cs:List (List Value)} {l:List α} (hi:L[i]?=some (.own w0.heap.size A c e (Rp.sz α) cs)) (hj:D[j]?=some (.els cs l)) (hL:L.eraseIdx i=L':=by (try dsimp only [List.eraseIdx]);all_goals exact rfl) (hD:D.eraseIdx j=D':=by (try dsimp only [List.eraseIdx]);all_goals exact rfl) :
  Bx w0 w Z G L' (.l A c l :: D'):=by
 subst hL hD
 exact h.Vg i j hi hj
theorem Bx.rb (h:Bx w0 w Z G L D) (i:Nat) {base:Nat} {A:Option Addr} {c sz:Nat} {e:TypeId} {cs:List (List Value)} (base':Nat) (hi:L[i]?=some (.own base A c e sz cs)) (hb:base'≤base) (hL:L.set i (.own base' A c e sz cs)=L':=by (try dsimp only [List.set]);all_goals exact rfl):Bx w0 w Z G L' D:=by
 subst hL
 exact h.VI i base' hi hb
theorem L9 {t:TypeId} {x:Operand} {T:TypeDesc} {z:Value} {s by_:Nat} {α:Type} [Rp α] {F:Nat→Prop} {a:Option Addr} {c:Nat} {l:List α} {k:Nat} {y:α} (cs:List Value) (hu:P.underlying t=some T) (hi:TI P t z s by_)
  (hx:ρ x=.pointer (some ⟨uu a,xk a+k * Rp.sz α,none⟩)) (h:lm F w a c l) (hy:l[k]?=some y) (hD:LZ T=true:=by exact rfl) (hs:s=cs.length:=by exact rfl) (hr:∀ ds,Rp.Bg F w ds y→ds=cs:=by exact fun _ h=>h):Yl P ρ (.load t x) d ty pos af g w (.agg cs.toArray):=oH cs hu hD hi hs hx (vB h hy hr)
theorem mD {t te:TypeId} {x:Operand} {T:TypeDesc} {z:Value} {s by_ b:Nat} {old:Array Value} (cs:List Value) (hu:P.underlying t=some T) (hi:TI P t z s by_)
  (hx:ρ x=.pointer (some ⟨b,0,none⟩)) (h:yu w b te old) (hD:LZ T=true:=by exact rfl) (hs:s=cs.length:=by exact rfl) (hr:(old.toList.drop 0).take cs.length=cs:=by exact rfl):Yl P ρ (.load t x) d ty pos af g w (.agg cs.toArray):=oH cs hu hD hi hs hx (Cells.part h.cells (o2:=0) hr)
end
end Go.Fw
