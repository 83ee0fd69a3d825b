/- Short words for the printed walks. -/
import Derived.Test.YtdkneekpdecjbaaGreatZ4
import Derived.Recover
set_option linter.unusedVariables false
namespace Go.Proofs.YtdkneekpdecjbaaGreat
open Go.RowKit Go.Fw Go.Proofs.Tryz
noncomputable section
abbrev Z {α:Type}(a:Option Addr)(l:List α)(c:Nat):Value:=.slice a l.length c
abbrev V (n:Int):Value:=Vi n
abbrev T (n:ByteArray):Value:=Vt n
abbrev sz (α:Type)[Rp α]:Nat:=Rp.sz α
abbrev O (e:Nat)(a:Option Addr)(c:Nat)(t:TypeId)(α:Type)[Rp α](q:List (List Value)):It:=.own e a c t (Rp.sz α) q
theorem ca {α:Type}{a:α}{l m:List α}:a :: l ++ m=a :: (l ++ m):=rfl
theorem na {α:Type}{l:List α}:[] ++ l=l:=rfl
theorem cb {a b:Bool}(h:a=b):Value.bool a=.bool b:=congrArg Value.bool h
theorem wm {p:Prop}[i:Decidable p](h:¬p):decide p=false:=Ja h
theorem vF {p:Prop}[i:Decidable p](h:p):decide p=true:=IX h
theorem nP {f:Fr}{l:List (Nat × Value)}(h:Has f l):∃ g,f=SY g l:=lu _ _ h
theorem yu {a:Bool}(h:¬a=true):Value.bool a=.bool false:=cb (nt h)
theorem s:type_of% @kU:=@kU
theorem q:type_of% @GV:=@GV
theorem g:type_of% @yj:=@yj
theorem n:type_of% @Og:=@Og
theorem y:type_of% @trivial:=@trivial
theorem mp:type_of% @YK:=@YK
theorem mi:type_of% @Zz:=@Zz
theorem xn:type_of% @Zh:=@Zh
theorem xi:type_of% @Xx:=@Xx
theorem wk:type_of% @Rl:=@Rl
theorem sc:type_of% @FQ:=@FQ
theorem ec:type_of% @jO:=@jO
theorem iv:type_of% @jH:=@jH
theorem tb:type_of% @Yk:=@Yk
theorem nQ:type_of% @jK:=@jK
theorem oc:type_of% @VZ:=@VZ
theorem oo:type_of% @aeH:=@aeH
theorem os:type_of% @adl:=@adl
theorem o7:type_of% @kD.nil:=@kD.nil
abbrev BA:=ByteArray
abbrev Gv:=gP
abbrev Gi:=jT
abbrev Ge:=jB
abbrev Gs:=jA
abbrev Gr:=kg
abbrev Gn:=kN
abbrev Gm:=lU
theorem M7:type_of% @underlying3:=@underlying3
theorem u5_:type_of% @underlying5:=@underlying5
theorem vN:type_of% @underlying9:=@underlying9
theorem BJ:type_of% @underlying22:=@underlying22
theorem MJ:type_of% @underlying23:=@underlying23
theorem Gt:type_of% @underlying24:=@underlying24
theorem Gz:type_of% @underlying26:=@underlying26
theorem GU:type_of% @underlying27:=@underlying27
theorem Tg:type_of% @underlying28:=@underlying28
theorem Kg:type_of% @underlying30:=@underlying30
theorem VP:type_of% @underlying34:=@underlying34
theorem Vb:type_of% @underlying48:=@underlying48
theorem afT:type_of% @underlying52:=@underlying52
theorem Bv:type_of% @underlying53:=@underlying53
theorem Xw:type_of% @underlying55:=@underlying55
theorem kX:type_of% @underlying58:=@underlying58
theorem Dv:type_of% @underlying59:=@underlying59
theorem JA:type_of% @underlying61:=@underlying61
theorem vE:type_of% @underlying62:=@underlying62
theorem afE:type_of% @underlying69:=@underlying69
theorem NS:type_of% @underlying73:=@underlying73
theorem GL:type_of% @underlying94:=@underlying94
theorem vC:type_of% @underlying113:=@underlying113
theorem mJ:type_of% @underlying115:=@underlying115
theorem FY:type_of% @underlying137:=@underlying137
theorem Uk:type_of% @underlying143:=@underlying143
theorem nR:type_of% @underlying166:=@underlying166
theorem Ui:type_of% @underlying208:=@underlying208
section
variable {ρ:Operand->Value}{d:Option Nat}{ty:TypeId}{pos:String}{af:Array Edge}{g:Option (Nat × Bool)}{w:World}{x:Operand}{b o:Nat}
theorem Im (h:ρ x=.pointer (some ⟨b,o,none⟩)):Yl prog ρ (.fieldAddr 26 x 0) d ty pos af g w (.pointer (some ⟨b,o,none⟩)):=CW underlying26 rfl rfl adR (by decide) h
theorem DJ (h:ρ x=.pointer (some ⟨b,o,none⟩)):Yl prog ρ (.fieldAddr 26 x 1) d ty pos af g w (.pointer (some ⟨b,o + 1,none⟩)):=qj (k:=1) underlying26 rfl rfl acz (by decide) h
theorem Km (h:ρ x=.pointer (some ⟨b,o,none⟩)):Yl prog ρ (.fieldAddr 30 x 0) d ty pos af g w (.pointer (some ⟨b,o,none⟩)):=CW underlying30 rfl rfl u6 (by decide) h
theorem Bt (h:ρ x=.pointer (some ⟨b,o,none⟩)):Yl prog ρ (.fieldAddr 30 x 1) d ty pos af g w (.pointer (some ⟨b,o + 2,none⟩)):=qj (k:=2) underlying30 rfl rfl adz (by decide) h
theorem Jl (h:ρ x=.pointer (some ⟨b,o,none⟩)):Yl prog ρ (.fieldAddr 30 x 2) d ty pos af g w (.pointer (some ⟨b,o + 3,none⟩)):=qj (k:=3) underlying30 rfl rfl aeb (by decide) h
theorem Tt (h:ρ x=.pointer (some ⟨b,o,none⟩)):Yl prog ρ (.fieldAddr 36 x 0) d ty pos af g w (.pointer (some ⟨b,o,none⟩)):=CW underlying36 rfl rfl aef (by decide) h
theorem WV (h:ρ x=.pointer (some ⟨b,o,none⟩)):Yl prog ρ (.fieldAddr 52 x 1) d ty pos af g w (.pointer (some ⟨b,o + 1,none⟩)):=qj (k:=1) underlying52 rfl rfl adE (by decide) h
theorem ZL (h:ρ x=.pointer (some ⟨b,o,none⟩)):Yl prog ρ (.fieldAddr 55 x 0) d ty pos af g w (.pointer (some ⟨b,o,none⟩)):=CW underlying55 rfl rfl ql (by decide) h
theorem TN (h:ρ x=.pointer (some ⟨b,o,none⟩)):Yl prog ρ (.fieldAddr 55 x 1) d ty pos af g w (.pointer (some ⟨b,o + 1,none⟩)):=qj (k:=1) underlying55 rfl rfl oW (by decide) h
theorem ZT (h:ρ x=.pointer (some ⟨b,o,none⟩)):Yl prog ρ (.fieldAddr 55 x 2) d ty pos af g w (.pointer (some ⟨b,o + 2,none⟩)):=qj (k:=2) underlying55 rfl rfl oW (by decide) h
theorem X8 (h:ρ x=.pointer (some ⟨b,o,none⟩)):Yl prog ρ (.fieldAddr 55 x 3) d ty pos af g w (.pointer (some ⟨b,o + 3,none⟩)):=qj (k:=3) underlying55 rfl rfl oW (by decide) h
theorem aac (h:ρ x=.pointer (some ⟨b,o,none⟩)):Yl prog ρ (.fieldAddr 55 x 5) d ty pos af g w (.pointer (some ⟨b,o + 5,none⟩)):=qj (k:=5) underlying55 rfl rfl oW (by decide) h
theorem QU (h:ρ x=.pointer (some ⟨b,o,none⟩)):Yl prog ρ (.fieldAddr 55 x 6) d ty pos af g w (.pointer (some ⟨b,o + 6,none⟩)):=qj (k:=6) underlying55 rfl rfl oW (by decide) h
theorem Qe (h:ρ x=.pointer (some ⟨b,o,none⟩)):Yl prog ρ (.fieldAddr 61 x 0) d ty pos af g w (.pointer (some ⟨b,o,none⟩)):=CW underlying61 rfl rfl ql (by decide) h
theorem T9 (h:ρ x=.pointer (some ⟨b,o,none⟩)):Yl prog ρ (.fieldAddr 61 x 1) d ty pos af g w (.pointer (some ⟨b,o + 1,none⟩)):=qj (k:=1) underlying61 rfl rfl oW (by decide) h
theorem LQ (h:ρ x=.pointer (some ⟨b,o,none⟩)):Yl prog ρ (.fieldAddr 61 x 2) d ty pos af g w (.pointer (some ⟨b,o + 2,none⟩)):=qj (k:=2) underlying61 rfl rfl pG (by decide) h
theorem H6 (h:ρ x=.pointer (some ⟨b,o,none⟩)):Yl prog ρ (.fieldAddr 61 x 3) d ty pos af g w (.pointer (some ⟨b,o + 3,none⟩)):=qj (k:=3) underlying61 rfl rfl Df (by decide) h
theorem XI (h:ρ x=.pointer (some ⟨b,o,none⟩)):Yl prog ρ (.fieldAddr 69 x 1) d ty pos af g w (.pointer (some ⟨b,o + 1,none⟩)):=qj (k:=1) underlying69 rfl rfl adn (by decide) h
theorem ZV (h:ρ x=.pointer (some ⟨b,o,none⟩)):Yl prog ρ (.fieldAddr 73 x 0) d ty pos af g w (.pointer (some ⟨b,o,none⟩)):=CW underlying73 rfl rfl oW (by decide) h
theorem aea (h:ρ x=.pointer (some ⟨b,o,none⟩)):Yl prog ρ (.fieldAddr 73 x 4) d ty pos af g w (.pointer (some ⟨b,o + 4,none⟩)):=qj (k:=4) underlying73 rfl rfl oW (by decide) h
theorem TM (h:ρ x=.pointer (some ⟨b,o,none⟩)):Yl prog ρ (.fieldAddr 73 x 5) d ty pos af g w (.pointer (some ⟨b,o + 5,none⟩)):=qj (k:=5) underlying73 rfl rfl oW (by decide) h
theorem Qj (h:ρ x=.pointer (some ⟨b,o,none⟩)):Yl prog ρ (.fieldAddr 73 x 6) d ty pos af g w (.pointer (some ⟨b,o + 6,none⟩)):=qj (k:=6) underlying73 rfl rfl oW (by decide) h
theorem Ws (h:ρ x=.pointer (some ⟨b,o,none⟩)):Yl prog ρ (.fieldAddr 73 x 7) d ty pos af g w (.pointer (some ⟨b,o + 7,none⟩)):=qj (k:=7) underlying73 rfl rfl oW (by decide) h
theorem El (h:ρ x=.pointer (some ⟨b,o,none⟩)):Yl prog ρ (.fieldAddr 99 x 0) d ty pos af g w (.pointer (some ⟨b,o,none⟩)):=CW underlying99 rfl rfl afy (by decide) h
theorem oJ (h:ρ x=.pointer (some ⟨b,o,none⟩)):Yl prog ρ (.fieldAddr 99 x 1) d ty pos af g w (.pointer (some ⟨b,o + 1,none⟩)):=qj (k:=1) underlying99 rfl rfl oW (by decide) h
theorem ZM (h:ρ x=.pointer (some ⟨b,o,none⟩)):Yl prog ρ (.fieldAddr 99 x 2) d ty pos af g w (.pointer (some ⟨b,o + 2,none⟩)):=qj (k:=2) underlying99 rfl rfl oW (by decide) h
theorem wT (h:ρ x=.pointer (some ⟨b,o,none⟩)):Yl prog ρ (.fieldAddr 99 x 3) d ty pos af g w (.pointer (some ⟨b,o + 3,none⟩)):=qj (k:=3) underlying99 rfl rfl Qv (by decide) h
theorem qG (h:ρ x=.pointer (some ⟨b,o,none⟩)):Yl prog ρ (.fieldAddr 103 x 0) d ty pos af g w (.pointer (some ⟨b,o,none⟩)):=CW underlying103 rfl rfl zq (by decide) h
theorem Dl (h:ρ x=.pointer (some ⟨b,o,none⟩)):Yl prog ρ (.fieldAddr 103 x 1) d ty pos af g w (.pointer (some ⟨b,o + 4,none⟩)):=qj (k:=4) underlying103 rfl rfl oW (by decide) h
theorem Dh (h:ρ x=.pointer (some ⟨b,o,none⟩)):Yl prog ρ (.fieldAddr 103 x 2) d ty pos af g w (.pointer (some ⟨b,o + 5,none⟩)):=qj (k:=5) underlying103 rfl rfl Iq (by decide) h
theorem Xu (h:ρ x=.pointer (some ⟨b,o,none⟩)):Yl prog ρ (.fieldAddr 103 x 3) d ty pos af g w (.pointer (some ⟨b,o + 6,none⟩)):=qj (k:=6) underlying103 rfl rfl oW (by decide) h
theorem Bn (h:ρ x=.pointer (some ⟨b,o,none⟩)):Yl prog ρ (.fieldAddr 103 x 4) d ty pos af g w (.pointer (some ⟨b,o + 7,none⟩)):=qj (k:=7) underlying103 rfl rfl Qv (by decide) h
theorem zF (h:ρ x=.pointer (some ⟨b,o,none⟩)):Yl prog ρ (.fieldAddr 115 x 0) d ty pos af g w (.pointer (some ⟨b,o,none⟩)):=CW underlying115 rfl rfl oW (by decide) h
theorem Dk (h:ρ x=.pointer (some ⟨b,o,none⟩)):Yl prog ρ (.fieldAddr 115 x 1) d ty pos af g w (.pointer (some ⟨b,o + 1,none⟩)):=qj (k:=1) underlying115 rfl rfl oW (by decide) h
theorem R9 (h:ρ x=.pointer (some ⟨b,o,none⟩)):Yl prog ρ (.fieldAddr 115 x 2) d ty pos af g w (.pointer (some ⟨b,o + 2,none⟩)):=qj (k:=2) underlying115 rfl rfl oW (by decide) h
theorem BR (h:ρ x=.pointer (some ⟨b,o,none⟩)):Yl prog ρ (.fieldAddr 115 x 3) d ty pos af g w (.pointer (some ⟨b,o + 3,none⟩)):=qj (k:=3) underlying115 rfl rfl ql (by decide) h
theorem KY (h:ρ x=.pointer (some ⟨b,o,none⟩)):Yl prog ρ (.fieldAddr 115 x 4) d ty pos af g w (.pointer (some ⟨b,o + 4,none⟩)):=qj (k:=4) underlying115 rfl rfl ql (by decide) h
theorem EY (h:ρ x=.pointer (some ⟨b,o,none⟩)):Yl prog ρ (.fieldAddr 115 x 5) d ty pos af g w (.pointer (some ⟨b,o + 5,none⟩)):=qj (k:=5) underlying115 rfl rfl oW (by decide) h
theorem RA (h:ρ x=.pointer (some ⟨b,o,none⟩)):Yl prog ρ (.fieldAddr 115 x 6) d ty pos af g w (.pointer (some ⟨b,o + 6,none⟩)):=qj (k:=6) underlying115 rfl rfl oW (by decide) h
theorem zD (h:ρ x=.pointer (some ⟨b,o,none⟩)):Yl prog ρ (.fieldAddr 115 x 7) d ty pos af g w (.pointer (some ⟨b,o + 7,none⟩)):=qj (k:=7) underlying115 rfl rfl wP (by decide) h
theorem F8 (h:ρ x=.pointer (some ⟨b,o,none⟩)):Yl prog ρ (.fieldAddr 115 x 8) d ty pos af g w (.pointer (some ⟨b,o + 8,none⟩)):=qj (k:=8) underlying115 rfl rfl ql (by decide) h
theorem R7 (h:ρ x=.pointer (some ⟨b,o,none⟩)):Yl prog ρ (.fieldAddr 115 x 9) d ty pos af g w (.pointer (some ⟨b,o + 9,none⟩)):=qj (k:=9) underlying115 rfl rfl oW (by decide) h
theorem wN (h:ρ x=.pointer (some ⟨b,o,none⟩)):Yl prog ρ (.fieldAddr 115 x 10) d ty pos af g w (.pointer (some ⟨b,o + 10,none⟩)):=qj (k:=10) underlying115 rfl rfl wP (by decide) h
theorem zi (h:ρ x=.pointer (some ⟨b,o,none⟩)):Yl prog ρ (.fieldAddr 115 x 11) d ty pos af g w (.pointer (some ⟨b,o + 11,none⟩)):=qj (k:=11) underlying115 rfl rfl Df (by decide) h
theorem zn (h:ρ x=.pointer (some ⟨b,o,none⟩)):Yl prog ρ (.fieldAddr 115 x 12) d ty pos af g w (.pointer (some ⟨b,o + 12,none⟩)):=qj (k:=12) underlying115 rfl rfl Df (by decide) h
theorem Rz (h:ρ x=.pointer (some ⟨b,o,none⟩)):Yl prog ρ (.fieldAddr 137 x 0) d ty pos af g w (.pointer (some ⟨b,o,none⟩)):=CW underlying137 rfl rfl oW (by decide) h
theorem OL (h:ρ x=.pointer (some ⟨b,o,none⟩)):Yl prog ρ (.fieldAddr 137 x 1) d ty pos af g w (.pointer (some ⟨b,o + 1,none⟩)):=qj (k:=1) underlying137 rfl rfl oW (by decide) h
theorem NY (h:ρ x=.pointer (some ⟨b,o,none⟩)):Yl prog ρ (.fieldAddr 137 x 2) d ty pos af g w (.pointer (some ⟨b,o + 2,none⟩)):=qj (k:=2) underlying137 rfl rfl ql (by decide) h
theorem XZ (h:ρ x=.pointer (some ⟨b,o,none⟩)):Yl prog ρ (.fieldAddr 137 x 3) d ty pos af g w (.pointer (some ⟨b,o + 3,none⟩)):=qj (k:=3) underlying137 rfl rfl oW (by decide) h
theorem N9 (h:ρ x=.pointer (some ⟨b,o,none⟩)):Yl prog ρ (.fieldAddr 143 x 0) d ty pos af g w (.pointer (some ⟨b,o,none⟩)):=CW underlying143 rfl rfl ql (by decide) h
theorem ES (h:ρ x=.pointer (some ⟨b,o,none⟩)):Yl prog ρ (.fieldAddr 143 x 1) d ty pos af g w (.pointer (some ⟨b,o + 1,none⟩)):=qj (k:=1) underlying143 rfl rfl pG (by decide) h
theorem Sw (h:ρ x=.pointer (some ⟨b,o,none⟩)):Yl prog ρ (.fieldAddr 159 x 0) d ty pos af g w (.pointer (some ⟨b,o,none⟩)):=CW underlying159 rfl rfl Iq (by decide) h
theorem Le (h:ρ x=.pointer (some ⟨b,o,none⟩)):Yl prog ρ (.fieldAddr 159 x 1) d ty pos af g w (.pointer (some ⟨b,o + 1,none⟩)):=qj (k:=1) underlying159 rfl rfl oW (by decide) h
theorem qb (h:ρ x=.pointer (some ⟨b,o,none⟩)):Yl prog ρ (.fieldAddr 163 x 0) d ty pos af g w (.pointer (some ⟨b,o,none⟩)):=CW underlying163 rfl rfl adv (by decide) h
theorem acJ (h:ρ x=.pointer (some ⟨b,o,none⟩)):Yl prog ρ (.fieldAddr 163 x 1) d ty pos af g w (.pointer (some ⟨b,o + 1,none⟩)):=qj (k:=1) underlying163 rfl rfl oW (by decide) h
theorem RQ (h:ρ x=.pointer (some ⟨b,o,none⟩)):Yl prog ρ (.fieldAddr 163 x 2) d ty pos af g w (.pointer (some ⟨b,o + 2,none⟩)):=qj (k:=2) underlying163 rfl rfl oW (by decide) h
theorem aaV (h:ρ x=.pointer (some ⟨b,o,none⟩)):Yl prog ρ (.fieldAddr 163 x 3) d ty pos af g w (.pointer (some ⟨b,o + 3,none⟩)):=qj (k:=3) underlying163 rfl rfl Iq (by decide) h
theorem nG (h:ρ x=.pointer (some ⟨b,o,none⟩)):Yl prog ρ (.fieldAddr 163 x 4) d ty pos af g w (.pointer (some ⟨b,o + 4,none⟩)):=qj (k:=4) underlying163 rfl rfl pG (by decide) h
theorem qN (h:ρ x=.pointer (some ⟨b,o,none⟩)):Yl prog ρ (.fieldAddr 163 x 5) d ty pos af g w (.pointer (some ⟨b,o + 5,none⟩)):=qj (k:=5) underlying163 rfl rfl pG (by decide) h
theorem rM (h:ρ x=.pointer (some ⟨b,o,none⟩)):Yl prog ρ (.fieldAddr 163 x 6) d ty pos af g w (.pointer (some ⟨b,o + 6,none⟩)):=qj (k:=6) underlying163 rfl rfl pG (by decide) h
theorem IU (h:ρ x=.pointer (some ⟨b,o,none⟩)):Yl prog ρ (.fieldAddr 163 x 7) d ty pos af g w (.pointer (some ⟨b,o + 7,none⟩)):=qj (k:=7) underlying163 rfl rfl oW (by decide) h
theorem RL (h:ρ x=.pointer (some ⟨b,o,none⟩)):Yl prog ρ (.fieldAddr 163 x 8) d ty pos af g w (.pointer (some ⟨b,o + 8,none⟩)):=qj (k:=8) underlying163 rfl rfl oW (by decide) h
theorem Di (h:ρ x=.pointer (some ⟨b,o,none⟩)):Yl prog ρ (.fieldAddr 166 x 0) d ty pos af g w (.pointer (some ⟨b,o,none⟩)):=CW underlying166 rfl rfl oW (by decide) h
theorem Oe (h:ρ x=.pointer (some ⟨b,o,none⟩)):Yl prog ρ (.fieldAddr 166 x 1) d ty pos af g w (.pointer (some ⟨b,o + 1,none⟩)):=qj (k:=1) underlying166 rfl rfl oW (by decide) h
theorem abu (h:ρ x=.pointer (some ⟨b,o,none⟩)):Yl prog ρ (.fieldAddr 166 x 2) d ty pos af g w (.pointer (some ⟨b,o + 2,none⟩)):=qj (k:=2) underlying166 rfl rfl oW (by decide) h
theorem OM (h:ρ x=.pointer (some ⟨b,o,none⟩)):Yl prog ρ (.fieldAddr 166 x 3) d ty pos af g w (.pointer (some ⟨b,o + 3,none⟩)):=qj (k:=3) underlying166 rfl rfl ql (by decide) h
theorem XG (h:ρ x=.pointer (some ⟨b,o,none⟩)):Yl prog ρ (.fieldAddr 166 x 4) d ty pos af g w (.pointer (some ⟨b,o + 4,none⟩)):=qj (k:=4) underlying166 rfl rfl ql (by decide) h
theorem DX (h:ρ x=.pointer (some ⟨b,o,none⟩)):Yl prog ρ (.fieldAddr 166 x 5) d ty pos af g w (.pointer (some ⟨b,o + 5,none⟩)):=qj (k:=5) underlying166 rfl rfl wP (by decide) h
theorem l3 {t:TypeId}{cs:Array Value}{v:Value}(h:ρ x=.pointer (some ⟨b,o,none⟩))(hb:uO w b t cs)(hi:cs[o]?=some v):Yl prog ρ (.load 3 x) d ty pos af g w v:=kC underlying3 rfl h (hb.cell hi)
theorem l9 {t:TypeId}{cs:Array Value}{v:Value}(h:ρ x=.pointer (some ⟨b,o,none⟩))(hb:uO w b t cs)(hi:cs[o]?=some v):Yl prog ρ (.load 9 x) d ty pos af g w v:=kC underlying9 rfl h (hb.cell hi)
theorem Yf {t:TypeId}{cs:Array Value}{v:Value}(h:ρ x=.pointer (some ⟨b,o,none⟩))(hb:uO w b t cs)(hi:cs[o]?=some v):Yl prog ρ (.load 22 x) d ty pos af g w v:=kC underlying22 rfl h (hb.cell hi)
theorem l23 {t:TypeId}{cs:Array Value}{v:Value}(h:ρ x=.pointer (some ⟨b,o,none⟩))(hb:uO w b t cs)(hi:cs[o]?=some v):Yl prog ρ (.load 23 x) d ty pos af g w v:=kC underlying23 rfl h (hb.cell hi)
theorem Vo {t:TypeId}{cs:Array Value}{v:Value}(h:ρ x=.pointer (some ⟨b,o,none⟩))(hb:uO w b t cs)(hi:cs[o]?=some v):Yl prog ρ (.load 24 x) d ty pos af g w v:=kC underlying24 rfl h (hb.cell hi)
theorem RZ {t:TypeId}{cs:Array Value}{v:Value}(h:ρ x=.pointer (some ⟨b,o,none⟩))(hb:uO w b t cs)(hi:cs[o]?=some v):Yl prog ρ (.load 27 x) d ty pos af g w v:=kC underlying27 rfl h (hb.cell hi)
theorem l28 {t:TypeId}{cs:Array Value}{v:Value}(h:ρ x=.pointer (some ⟨b,o,none⟩))(hb:uO w b t cs)(hi:cs[o]?=some v):Yl prog ρ (.load 28 x) d ty pos af g w v:=kC underlying28 rfl h (hb.cell hi)
theorem l34 {t:TypeId}{cs:Array Value}{v:Value}(h:ρ x=.pointer (some ⟨b,o,none⟩))(hb:uO w b t cs)(hi:cs[o]?=some v):Yl prog ρ (.load 34 x) d ty pos af g w v:=kC underlying34 rfl h (hb.cell hi)
theorem FN {t:TypeId}{cs:Array Value}{v:Value}(h:ρ x=.pointer (some ⟨b,o,none⟩))(hb:uO w b t cs)(hi:cs[o]?=some v):Yl prog ρ (.load 37 x) d ty pos af g w v:=kC underlying37 rfl h (hb.cell hi)
theorem l48 {t:TypeId}{cs:Array Value}{v:Value}(h:ρ x=.pointer (some ⟨b,o,none⟩))(hb:uO w b t cs)(hi:cs[o]?=some v):Yl prog ρ (.load 48 x) d ty pos af g w v:=kC underlying48 rfl h (hb.cell hi)
theorem Cz {t:TypeId}{cs:Array Value}{v:Value}(h:ρ x=.pointer (some ⟨b,o,none⟩))(hb:uO w b t cs)(hi:cs[o]?=some v):Yl prog ρ (.load 58 x) d ty pos af g w v:=kC underlying58 rfl h (hb.cell hi)
theorem UW {t:TypeId}{cs:Array Value}{v:Value}(h:ρ x=.pointer (some ⟨b,o,none⟩))(hb:uO w b t cs)(hi:cs[o]?=some v):Yl prog ρ (.load 59 x) d ty pos af g w v:=kC underlying59 rfl h (hb.cell hi)
theorem l62 {t:TypeId}{cs:Array Value}{v:Value}(h:ρ x=.pointer (some ⟨b,o,none⟩))(hb:uO w b t cs)(hi:cs[o]?=some v):Yl prog ρ (.load 62 x) d ty pos af g w v:=kC underlying62 rfl h (hb.cell hi)
theorem Vn {t:TypeId}{cs:Array Value}{v:Value}(h:ρ x=.pointer (some ⟨b,o,none⟩))(hb:uO w b t cs)(hi:cs[o]?=some v):Yl prog ρ (.load 94 x) d ty pos af g w v:=kC underlying94 rfl h (hb.cell hi)
theorem Et {t:TypeId}{cs:Array Value}{v:Value}(h:ρ x=.pointer (some ⟨b,o,none⟩))(hb:uO w b t cs)(hi:cs[o]?=some v):Yl prog ρ (.load 113 x) d ty pos af g w v:=kC underlying113 rfl h (hb.cell hi)
theorem zw {t:TypeId}{cs:Array Value}{v:Value}(h:ρ x=.pointer (some ⟨b,o,none⟩))(hb:uO w b t cs)(hi:cs[o]?=some v):Yl prog ρ (.load 157 x) d ty pos af g w v:=kC underlying157 rfl h (hb.cell hi)
end
section
variable {P:Program}{N:Fz}{ops:Array Oper}{f:Fr}{w w0:World}{n:Nat}{K:KK}{Lb:Array Bool}{T:List Nat}{Y G:Nat->Prop}{L:List It}{D:List Da}{S1 S:World->Prop}
theorem pF (i : Nat){oi : Oper}{v : Value}(hi : ops[i]? = some oi)(hy : ∀ {w : World}, (execOp (ev f) oi).run P w = .ok (.value v) w)(hs : S1 w)
 (k:oL P N ops S1 (fun _=>True) T K n (Lb.setIfInBounds i true) (lH f oi.dst v) w) (hw:uL ops f oi.guard=true:=by exact rfl) (hc:may ops T Lb i=true:=by kernel_rfl):oL P N ops S1 (fun _=>True) T K (n + 1) Lb f w:=tP i hi (fun _=>hy) (sF hs) k hw hc
theorem pL (i : Nat){oi : Oper}{v : Value}(hi : ops[i]? = some oi)(hy : ∀ {w : World}, (execOp (ev f) oi).run P w = .ok (.value v) w)(hs : S1 w)(hu : S w)
 (k:oL P N ops S1 S T K n (Lb.setIfInBounds i true) (lH f oi.dst v) w) (hw:uL ops f oi.guard=true:=by exact rfl) (hc:may ops T Lb i=true:=by kernel_rfl):oL P N ops S1 S T K (n + 1) Lb f w:=tP i hi (fun _=>hy) (jK hs hu) k hw hc
theorem uF (i : Nat){oi : Oper}{v : Value}(hi : ops[i]? = some oi)(hy : ∀ {w : World}, S1 w → (execOp (ev f) oi).run P w = .ok (.value v) w)(hs : S1 w)
 (k:oL P N ops S1 (fun _=>True) T K n (Lb.setIfInBounds i true) (lH f oi.dst v) w) (hw:uL ops f oi.guard=true:=by exact rfl) (hc:may ops T Lb i=true:=by kernel_rfl):oL P N ops S1 (fun _=>True) T K (n + 1) Lb f w:=tU i hi (fun _=>hy) (sF hs) k hw hc
theorem hO (i:Nat)(h:Cj P N ops S1 S T K n Lb f w i)(hr:Region.ready .any ops Lb=[i]:=by kernel_rfl):oL P N ops S1 S T K (n + 1) Lb f w:=ac3 i hr h
theorem hD (h:K.n f w)(hr:Region.ready .any ops Lb=[]:=by kernel_rfl):oL P N ops S1 S T K n Lb f w:=abd hr h
theorem sy (t:Nat)(h1:S1 w)(h:(T.contains t && Lb.getD t false)=true:=by kernel_rfl):Cm S1 T S Lb w:=WU t h1 h
theorem cf {g : FuncId}{fn : Func}{c : Code}{args : Array Value}{R : Value → World → Prop}(hf : P.funcs[g]? = some fn)(hb : fn.body = some c)
 (h:WP P (fn.ntmps,[]) c ⟨Reads P fn R,fun _ _ _=>False,Reads P fn R,fun _ _ _=>False⟩ (Ct args) w) (hs:Nat.ble args.size fn.ntmps=true:=by exact rfl) (hok:JK (fn.ntmps,[]) c=true:=by kernel_rfl):Calls P g args w (tV R):=Xg hf hb (Nat.le_of_ble_eq_true hs) hok h
end
end
end Go.Proofs.YtdkneekpdecjbaaGreat
namespace Go.Fw
theorem Bx.ad {w0 w:World}{Y G:Nat->Prop}{L:List It}{D:List Da}(h:Bx w0 w Y G L D)(l m:List Nat)(hn:nodup l=true:=by exact rfl):Bx w0 w Y G (pick L l) (pick D m):=(h.arr l hn).dp m
theorem Bx.le {w0 w:World}{Y G:Nat->Prop}{L:List It}{D:List Da}{e:Nat}(h:Bx w0 w Y G L D)(k:e<=w0.heap.size):e<=w.heap.size:=rE k h.tQ.size
theorem mq {α β γ:Type}{o:Option (α × β)}{f:α->β->Option γ}{X:γ}(h:(o.bind fun x=>jy x f)=some X):∃ a b,o=some (a,b)/\f a b=some X:=by obtain ⟨⟨a,b⟩,h1,h2⟩:=bs h;exact ⟨a,b,h1,h2⟩
theorem vB {α β γ δ:Type}{o:Option (α × β × γ)}{f:α->β->γ->Option δ}{X:δ}(h:(o.bind fun x=>jy x fun a y=>jy y (f a))=some X):∃ a b c,o=some (a,b,c)/\f a b c=some X:=by obtain ⟨⟨a,b,c⟩,h1,h2⟩:=bs h;exact ⟨a,b,c,h1,h2⟩
theorem aex {α β γ δ ε:Type}{o:Option (α × β × γ × δ)}{f:α->β->γ->δ->Option ε}{X:ε}(h:(o.bind fun x=>jy x fun a y=>jy y fun b z=>jy z (f a b))=some X):∃ a b c d,o=some (a,b,c,d)/\f a b c d=some X:=by obtain ⟨⟨a,b,c,d⟩,h1,h2⟩:=bs h;exact ⟨a,b,c,d,h1,h2⟩
theorem Eo {α β γ δ:Type}{a:α}{b:β}{c:γ}{f:α->β->γ->δ}{X:δ}(h:jy (a,b,c) (fun x y=>jy y (f x))=X):f a b c=X:=h
theorem nk {α β γ ε δ:Type}{a:α}{b:β}{c:γ}{d:ε}{f:α->β->γ->ε->δ}{X:δ}(h:jy (a,b,c,d) (fun x y=>jy y fun u v=>jy v (f x u))=X):f a b c d=X:=h
section
variable {P:Program}{N:Fz}{ops:Array Oper}{K:KK}{rest:List Oper}{f:Fr}{w w0:World}{d:Option Nat}{op:Op}{ty:TypeId}{pos:String}{af:Array Edge}{Z G:Nat->Prop}{L:List It}{D:List Da}
theorem sW (h:Bx w0 w Z G L D){t:TypeId}{cs:Array Value}(e:(execOp (ev f) ⟨d,op,ty,pos,af,none⟩).run P w=.ok (.value (.pointer (some ⟨w.heap.size,0,none⟩))) (w.alloc (.cells cs t)))(k:∀ w' b,Bx w0 w' Z G (.box b t cs :: L) D->o8 P N ops K rest (lH f d (.pointer (some ⟨b,0,none⟩))) w'):o8 P N ops K (⟨d,op,ty,pos,af,none⟩ :: rest) f w:=qd (rC h e) (by rintro _ w' ⟨b,rfl,h⟩;exact k w' b h)
end
def spl:List Value→Nat→List Value→List Value
 | [],_,_=>[]
 | a :: l,0,[]=>a :: l
 | _ :: l,0,v :: m=>v :: spl l 0 m
 | a :: l,n+1,m=>a :: spl l n m
theorem RY:∀ (l:List Value)(o:Nat)(m:List Value),o+m.length≤l.length→spl l o m=l.take o ++ m ++ l.drop (o+m.length)
 | [],o,m,h=>by have h1:m=[]:=List.length_eq_zero_iff.1 (by simp only [xX] at h;omega);subst h1;simp [spl]
 | a :: l,0,[],_=>by simp [spl]
 | a :: l,0,v :: m,h=>by have:=RY l 0 m (by simp only [uK] at h;omega);simp only [spl,this];simp
 | a :: l,n+1,m,h=>by have:=RY l n m (by simp only [uK] at h;omega);rw [spl,this,show n+1+m.length=(n+m.length)+1 by omega];simp
section
variable {P:Program}{ρ:Operand->Value}{w w' w0:World}{d:Option Nat}{ty:TypeId}{pos:String}{af:Array Edge}{g:Option (Nat × Bool)}{Z G:Nat->Prop}{L L' L1 Lc:List It}{D D' D1:List Da}
theorem mQ (hL:Bx w0 w Z G L D)(i:Nat){t te:TypeId}{x y:Operand}{z:Value}{s by_ b:Nat}{old:Array Value}(vs:List Value)(hi:L[i]?=some (.box b te old))(ht:TI P t z s by_)(hx:ρ x=.pointer (some ⟨b,0,none⟩))(hy:(ρ y).cells=vs.toArray)(e:L.set i (.box b te vs.toArray)=L':=by (try dsimp only [List.set]);all_goals exact rfl)(hs:s=vs.length:=by exact rfl)(h1:vs.all (fun v=>v.oneCell')=true:=by exact rfl)(hl:Nat.beq vs.length old.size=true:=by exact rfl) :Wm P ρ ⟨d,.store t x y,ty,pos,af,g⟩ w fun w'=>Bx w0 w' Z G L' D:=by have h:=Nat.eq_of_beq_eq_true hl;subst e;refine Yk hL i vs hi ht hs hx hy h1 (Nat.ble_eq_true_of_le (by rw [DV,h];exact mO _)) ?_;rw [DV,List.take_zero,DI,List.drop_eq_nil_of_le (by rw [h];simp),ER]
theorem t_n (hL:Bx w0 w Z G L D)(i:Nat){t te:TypeId}{x y:Operand}{z:Value}{s by_ b o:Nat}{old cs':List Value}(vs:List Value)(hi:L[i]?=some (.box b te old.toArray))(ht:TI P t z s by_)(hx:ρ x=.pointer (some ⟨b,o,none⟩))(hy:(ρ y).cells=vs.toArray)(hc:spl old o vs=cs':=by (try dsimp only [spl]);all_goals exact rfl)(e:L.set i (.box b te cs'.toArray)=L':=by (try dsimp only [List.set]);all_goals exact rfl)(hs:s=vs.length:=by exact rfl)(h1:vs.all (fun v=>v.oneCell')=true:=by exact rfl)(hl:Nat.ble (o+vs.length) old.length=true:=by exact rfl) :Wm P ρ ⟨d,.store t x y,ty,pos,af,g⟩ w fun w'=>Bx w0 w' Z G L' D:=by have h:=Nat.le_of_ble_eq_true hl;subst e hc;refine Yk hL i vs hi ht hs hx hy h1 (Nat.ble_eq_true_of_le (by simpa using h)) ?_;rw [RY _ _ _ h]
theorem Bx.cn (h:Bx w0 w Z G L D)(i r:List Nat)(k:Bx w w' (HY w0 Z (pick L i ++ pick L r)) (mW Lc) L1 D1)(hL:L1 ++ pick L r=L':=by (try dsimp only [pick,nth,List.cons_append,List.nil_append]);all_goals exact rfl)(hD:D1 ++ D=D':=by (try dsimp only [List.cons_append,List.nil_append]);all_goals exact rfl)(e:pick L i=Lc:=by exact rfl)(hn:nodup (i ++ r)=true:=by exact rfl):Bx w0 w' Z G L' D':=by subst hL hD;exact h.cl i r hn k e
theorem Bx.fz (h:Bx w0 w Z G L D)(i j:Nat){α:Type}[Rp α]{e:TypeId}{A:Option Addr}{c:Nat}{cs:List (List Value)}{l:List α}(hi:L[i]?=some (.own w0.heap.size A c e (Rp.sz α) cs))(hj:D[j]?=some (.els cs l))(hL:L.eraseIdx i=L':=by (try dsimp only [List.eraseIdx]);all_goals exact rfl)(hD:D.eraseIdx j=D':=by (try dsimp only [List.eraseIdx]);all_goals exact rfl) :
  Bx w0 w Z G L' (.l A c l :: D'):=by
 subst hL hD;exact h.frz i j hi hj
theorem Bx.rb (h:Bx w0 w Z G L D)(i:Nat){base:Nat}{A:Option Addr}{c sz:Nat}{e:TypeId}{cs:List (List Value)}(base':Nat)(hi:L[i]?=some (.own base A c e sz cs))(hb:base'<=base)(hL:L.set i (.own base' A c e sz cs)=L':=by (try dsimp only [List.set]);all_goals exact rfl):Bx w0 w Z G L' D:=by subst hL;exact h.reb i base' hi hb
theorem OQ {t:TypeId}{x:Operand}{T:TypeDesc}{z:Value}{s by_:Nat}{α:Type}[Rp α]{F:Nat→Prop}{a:Option Addr}{c:Nat}{l:List α}{k:Nat}{y:α}(cs:List Value)(hu:P.underlying t=some T)(hi:TI P t z s by_)
 (hx:ρ x=.pointer (some ⟨mU a,nS a+k * Rp.sz α,none⟩)) (h:kD F w a c l) (hy:l[k]?=some y) (hD:MK T=true:=by exact rfl) (hs:s=cs.length:=by exact rfl) (hr:∀ ds,Rp.rep F w ds y->ds=cs:=by exact fun _ h=>h):Yl P ρ (.load t x) d ty pos af g w (.agg cs.toArray):=nT cs hu hD hi hs hx (vD h hy hr)
theorem lI {t te:TypeId}{x:Operand}{T:TypeDesc}{z:Value}{s by_ b:Nat}{old:Array Value}(cs:List Value)(hu:P.underlying t=some T)(hi:TI P t z s by_)
 (hx:ρ x=.pointer (some ⟨b,0,none⟩)) (h:uO w b te old) (hD:MK T=true:=by exact rfl) (hs:s=cs.length:=by exact rfl) (hr:(old.toList.drop 0).take cs.length=cs:=by exact rfl):Yl P ρ (.load t x) d ty pos af g w (.agg cs.toArray):=nT cs hu hD hi hs hx (Cells.part h.cells (o2:=0) hr)
end
theorem Jv {P:Program}{N:Fz}{n R:Fr->World->Prop}{X:Nat->Fr->World->Prop}{V:Fr->List PanicEntry->World->Prop}{f:Fr}{w w0 w1:World}{Z G:Nat->Prop}{L:List It}{D:List Da}(a:Bx w0 w1 Z G L D){x:Code}(J:(World->Prop)->Fr->World->Prop)(h:∀ J':Fr->World->Prop,(∀ f w,J (Bx w0 · Z G L D) f w->J' f w)->WP P N x ⟨J',X,R,V⟩ f w)(k:∀ f w,J (Bx w0 · Z G L D) f w->n f w):WP P N x ⟨n,X,R,V⟩ f w:=qK (J (Bx w0 · Z G L D)) h k
end Go.Fw
namespace Go.Fw
open Go.RowKit
def RP (R:Value→World→Prop)(V:List PanicEntry→World→Prop):Ending→World→Prop
 | .returned v,w=>R v w
 | .panicked c,w=>V c w
 | .outgrown,_=>False
def Pch (v:Value)(c:List PanicEntry):Prop:=∃ l:List PanicEntry,c=⟨v,false,false⟩ :: l/\∀ e ∈ l,e.goexit=false
theorem aeu (v:Value):Pch v [⟨v,false,false⟩]:=⟨[],rfl,fun _ h=>by cases h⟩
section
variable {P:Program}{N:Fz}{ops:Array Oper}{K:KK}{rest:List Oper}{f:Fr}{w:World}{d:Option Nat}{op:Op}{ty:TypeId}{pos:String}{af:Array Edge}
theorem sCP {w':World}{g:FuncId}{args:Array Value}{R:Value->World->Prop}{V:List PanicEntry->World->Prop}(h:(execOp (ev f) ⟨d,op,ty,pos,af,none⟩).run P w=.ok (.enter g args) w')(hc:Calls P g args w' (RP R V))(kp:∀ c w'',V c w''->K.p f c w'')(k:∀ v w'',R v w''->o8 P N ops K rest (lH f d v) w'') :o8 P N ops K (⟨d,op,ty,pos,af,none⟩ :: rest) f w:=by
 unfold o8;intro hok a ha;have h1:=hok _ (Bl ..);refine wpList_plain rfl fun K' hK=>?_;unfold Oper.wp;rw [ha.Bp,h];refine hc.mono fun e w'' he=>?_;cases e with
 | returned v=>
  have:=k v w'' he;unfold o8 at this;exact hK _ _ (this (fun o ho=>hok o (yw _ ho)) _ (ha.put d (tZ h1) v))
 | panicked c=>exact ⟨f,ha,kp c w'' he⟩
 | outgrown=>exact he.elim
theorem Z4 {w':World}{v:Value}(h:(execOp (ev f) ⟨d,op,ty,pos,af,none⟩).run P w=.halt (.panic v) w')(kp:K.p f [⟨v,false,false⟩] w') :o8 P N ops K (⟨d,op,ty,pos,af,none⟩ :: rest) f w:=by unfold o8;intro hok a ha;refine wpList_plain rfl fun K' hK=>?_;unfold Oper.wp;rw [ha.Bp,h];exact ⟨f,ha,kp⟩
theorem aaF {x:Operand}{t:TypeId}{v:Value}(hx:ev f x=.iface t v)(kp:K.p f [⟨.iface t v,false,false⟩] w):o8 P N ops K (⟨d,.panic x,ty,pos,af,none⟩ :: rest) f w:=
 Z4 (v:=.iface t v) (by simp [execOp,hx,Instr.panic,goPanic]) kp
end
section
variable {P:Program}{w:World}{ρ:Operand->Value}{d:Option Nat}{ty:TypeId}{pos:String}{af:Array Edge}{g:Option (Nat × Bool)}
def Rt (P:Program)(ρ:Operand->Value)(o:Oper)(w:World):Prop:=∃ w' v,(execOp ρ o).run P w=.halt (.panic (.iface P.rt.boundsError v)) w'/\(w'=w\/w'=w.drew)
theorem TD {t e:TypeId}{x y:Operand}{n c:Nat}{k:IntKind}{i:Int}(ht:P.underlying t=some (.slice e)){a:Option Addr}(hx:ρ x=.slice a n c)(hy:ρ y=.int k i)(hi:¬ (0<=i/\i < n)):Rt P ρ ⟨d,.indexAddr t x y,ty,pos,af,g⟩ w:=by
 have hb:∀ m:Int,∃ w' v,(boundsPanic (α:=Value) k i m .index).run P w=.halt (.panic (.iface P.rt.boundsError v)) w'/\(w'=w\/w'=w.drew):=fun m=>by
  unfold boundsPanic;by_cases h:(k != .u64 && decide (0<=i) && decide (i<=31))=true
  · refine ⟨w.drew,?_⟩;simp [h,runtimePanic,goPanic,Question.forced]
  · refine ⟨w,?_⟩;simp [h,runtimePanic,goPanic]
 have h2:(execOp ρ ⟨d,.indexAddr t x y,ty,pos,af,g⟩).run P w=((boundsPanic (α:=Value) k i (if a=none then 0 else n) .index).run P w).andThen fun v w=>.ok (.value v) w:=by
  cases a with
  | none=>simp [execOp,hx,hy,Instr.indexAt,run_underlying ht,asIntOf]
  | some a=>simp [execOp,hx,hy,Instr.indexAt,run_underlying ht,asIntOf,hi]
 obtain ⟨w',v,h3,h4⟩:=hb (if a=none then 0 else n);exact ⟨w',v,by rw [h2,h3];rfl,h4⟩
end
section
variable {P:Program}{N:Fz}{ops:Array Oper}{S1 S:World->Prop}{T:List Nat}{K:KK}{f:Fr}{w:World}{n:Nat}{L:Array Bool}
theorem afX {i:Nat}{oi:Oper}{w':World}{g:FuncId}{args:Array Value}{R:Value->World->Prop}{V:List PanicEntry->World->Prop}(hi:ops[i]?=some oi)(hw:uL ops f oi.guard=true)(h:(execOp (ev f) oi).run P w=.ok (.enter g args) w')(hc:Calls P g args w' (RP R V))(kp:∀ c w'',V c w''->∀ f,K.p f c w'')(k:∀ v w'',R v w''->Cm S1 T S (L.setIfInBounds i true) w''/\oL P N ops S1 S T K n (L.setIfInBounds i true) (lH f oi.dst v) w''):Cj P N ops S1 S T K n L f w i:=by
 unfold Cj;intro hok hcl a ha;have hd:Az N oi=true:=hok oi (by have:=Array.mem_of_getElem? hi;simpa using this);unfold wpOp;simp only [hi];rw [lG (by rw [uY ha];exact hw)];left;unfold Oper.wp;rw [ha.Bp,h];refine hc.mono fun e w'' he=>?_;cases e with
 | returned v=>
  have h2:=(k v w'' he).2;unfold oL at h2;exact ⟨(k v w'' he).1,h2 hok hcl _ (ha.put _ (tZ hd) v)⟩
 | panicked c=>exact ⟨f,ha,kp c w'' he⟩
 | outgrown=>exact he.elim
theorem abI {i:Nat}{oi:Oper}{w':World}{v:Value}(hi:ops[i]?=some oi)(hw:uL ops f oi.guard=true)(h:(execOp (ev f) oi).run P w=.halt (.panic v) w')(kp:∀ f,K.p f [⟨v,false,false⟩] w'):Cj P N ops S1 S T K n L f w i:=by unfold Cj;intro hok hcl a ha;unfold wpOp;simp only [hi];rw [lG (by rw [uY ha];exact hw)];left;unfold Oper.wp;rw [ha.Bp,h];exact ⟨f,ha,kp⟩
end
section
variable {P:Program}{N:Fz}
theorem lq {g:FuncId}{fn:Func}{c:Code}{args:Array Value}{w:World}{R:Value->World->Prop}{V:List PanicEntry->World->Prop}(hf:P.funcs[g]?=some fn)(hb:fn.body=some c)(h:WP P (fn.ntmps,[]) c ⟨Reads P fn R,fun _ _ _=>False,Reads P fn R,fun _ c w=>V c w⟩ (Ct args) w)(hs:Nat.ble args.size fn.ntmps=true:=by exact rfl)(hok:JK (fn.ntmps,[]) c=true:=by kernel_rfl):Calls P g args w (RP R V):=by
 have hs:=Nat.le_of_ble_eq_true hs;unfold WP at h;refine calls_of_wp hf hb (Code.wp_mono (fun e a w q=>?_) (h hok _ ⟨by simp;omega,fun t=>?_,rfl⟩))
 · cases e with
   | normal=>
     obtain ⟨f,h1,h2⟩:=q;unfold Reads at h2;obtain ⟨v,hv,hR⟩:=h2 a.tmps h1.get;exact ⟨h1.dfr,v,hv,hR⟩
   | ret=>
     obtain ⟨f,h1,h2⟩:=q;unfold Reads at h2;obtain ⟨v,hv,hR⟩:=h2 a.tmps h1.get;exact ⟨h1.dfr,v,hv,hR⟩
   | exit i=>obtain ⟨f,h1,h2⟩:=q;exact h2.elim
   | panic c=>obtain ⟨f,h1,h2⟩:=q;exact ⟨h1.dfr,h2⟩
   | _=>exact q.elim
 · unfold Ct;simp only [Array.getD_eq_getD_getElem?];rw [Array.getElem?_append];split
   · rfl
   · rename_i hlt;rw [Array.getElem?_replicate];split
     · rw [Array.getElem?_eq_none (by omega)];rfl
     · rw [Array.getElem?_eq_none (by omega)]
theorem JX {args:Array Value}{n:Nat}(hs:args.size<=n):L6 (n,[]) (Ct args) { tmps:=args ++ Array.replicate (n - args.size) undef,defers:=[] }:=by
 refine ⟨by simp;omega,fun t=>?_,rfl⟩;unfold Ct;simp only [Array.getD_eq_getD_getElem?];rw [Array.getElem?_append];split
 · rfl
 · rename_i hlt;rw [Array.getElem?_replicate];split
   · rw [Array.getElem?_eq_none (by omega)];rfl
   · rw [Array.getElem?_eq_none (by omega)]
def Yh (P:Program)(N:Fz)(c:Code)(Q:Exit->Act->World->Prop)(f:Fr)(w:World):Prop:=JK N c=true->∀ a,L6 N f a->c.wp P Q a w
theorem aeG {c:Code}{Q:Post}{Q':Exit->Act->World->Prop}{f:Fr}{w:World}(h:WP P N c Q f w)(k:∀ e a w,lift N Q e a w->Q' e a w):Yh P N c Q' f w:=fun hok a ha=>by unfold WP at h;exact Code.wp_mono (fun e a w q=>k e a w q) (h hok a ha)
theorem afC {x y:Code}{Q:Exit→Act→World→Prop}{X:Nat→Fr→World→Prop}{R:Fr→World→Prop}{V:Fr→List PanicEntry→World→Prop}{f:Fr}{w:World}
  (h:WP P N x ⟨fun f w=>Yh P N y Q f w,X,R,V⟩ f w) (k:∀ e a w,lift N ⟨fun _ _=>False,X,R,V⟩ e a w->Q e a w):Yh P N (.seq x y) Q f w:=fun hok a ha=>by
 unfold WP at h;simp only [JK,Ep] at hok;refine wp_seq (Code.wp_mono (fun e a w q=>?_) (h hok.1 a ha));cases e with
 | normal=>obtain ⟨f,h1,h2⟩:=q;exact h2 hok.2 a h1
 | _=>exact k _ a w q
theorem CX {n:Nat}{d e:List Deferred}:∀ (c:Code),JK (n,d) c=true→JK (n,e) c=true
 | .region _ _ _,h=>h
 | .seq a b,h=>by simp only [JK,Ep] at h ⊢;exact ⟨CX a h.1,CX b h.2⟩
 | .cond _ a b,h=>by simp only [JK,Ep] at h ⊢;exact ⟨CX a h.1,CX b h.2⟩
 | .block _ c,h=>CX c h
 | .loop c,h=>CX c h
 | .scope c,h=>CX c h
 | .skip,_=>rfl
 | .ret,_=>rfl
 | .exit _,_=>rfl
 | .rangeFunc _ _ _ _,_=>rfl
 | .label _,_=>rfl
 | .goto _,_=>rfl
 | .refuse _,_=>rfl
theorem abQ {i:Nat}{o1 o2:Oper}{y:Code}{Q:Exit→Act→World→Prop}{f:Fr}{w:World}{v:Value}{d:Deferred}
  (e1:(execOp (ev f) o1).run P w=.ok (.value v) w) (e2:(execOp (ev (lH f o1.dst v)) o2).run P w=.ok (.defer d) w)
  (k:Yh P (N.1,d :: N.2) y Q (lH f o1.dst v) w) (h1:o1.guard=none:=by rfl) (h2:o2.guard=none:=by rfl) (h3:o2.dst=none:=by rfl) :
  Yh P N (.seq (.region i #[o1,o2] false) y) Q f w:=fun hok a ha=>by
 simp only [JK,Ep] at hok;have hd1:Az N o1=true:=by have:=hok.1;simp at this;exact this.1
 have hp:=ha.put o1.dst (tZ hd1) v;refine wp_seq (wp_region_lit (l:=[o1,o2]) ?_);refine wpList_plain h1 fun K1 hK1=>?_;unfold Oper.wp;rw [ha.Bp,e1];refine hK1 _ _ (wpList_plain h2 fun K2 hK2=>?_);unfold Oper.wp;rw [hp.Bp,e2];refine hK2 _ _ (wpList_nil ?_);rw [h3];refine k (CX y hok.2) _ ⟨hp.size,hp.get,?_⟩;show d :: (a.put o1.dst v).defers=d :: N.2;rw [hp.dfr]
theorem UH {g:FuncId}{fn:Func}{c:Code}{args:Array Value}{w:World}{R:Ending->World->Prop}(hf:P.funcs[g]?=some fn)(hb:fn.body=some c)(h:Yh P (fn.ntmps,[]) c (bodyPostD P fn R) (Ct args) w)(hs:Nat.ble args.size fn.ntmps=true:=by exact rfl)(hok:JK (fn.ntmps,[]) c=true:=by kernel_rfl):Calls P g args w R:=
 calls_of_wp_defers hf hb (h hok _ (JX (Nat.le_of_ble_eq_true hs)))
def GN:FrameMode→Value × FrameMode
 | .panicking (⟨v,false,false⟩ :: l)=>(v,.panicking (⟨v,true,false⟩ :: l))
 | m=>(.nilIface,m)
def RD (u:FrameMode)(R:World→Prop)(V:List PanicEntry→World→Prop):Ending→FrameMode→World→Prop
 | .returned _,u',w=>u'=u/\R w
 | .panicked c,u',w=>u'=u/\V c w
 | .outgrown,_,_=>False
end
section
variable {w0 w w':World}{Z Z' G:Nat->Prop}{L:List It}{D:List Da}
theorem Bx.wid (h:Bx w0 w Z G L D)(hz:∀ b,Z b->Z' b):Bx w0 w Z' G L D:=
 ⟨h.tQ,h.it,h.pw,fun d hd=>d.mv (h.da d hd) (.same fun b hf _=>⟨fun h0=>hz b (hf.1 h0),hf.2⟩)⟩
theorem Bx.MV {Lc Lr L1:List It}{D1:List Da}(h:Bx w0 w Z G (Lc ++ Lr) D)(hZ:∀ b,G b->Z b)(k:Bx w w' (fun b=>HY w0 Z (Lc ++ Lr) b\/mW Lc b) (mW Lc) L1 D1):Bx w0 w' Z G (L1 ++ Lr) (D1 ++ D):=by
 have hpw:=List.pairwise_append.1 h.pw;have hb:Bx w0 w' Z G (L1 ++ Lr) ([] ++ D):=h.call ⟨k.tQ,k.it,k.pw,adB⟩;refine ⟨hb.tQ,hb.it,hb.pw,fun d hd=>?_⟩;rcases pX.1 hd with hd | hd
 · refine d.mv (k.da d hd) (.same fun b hf hl=>⟨fun h0=>?_,fun it hi hb'=>?_⟩)
   · rcases hf.1 (Nat.lt_of_lt_of_le h0 h.tQ.size) with h1 | ⟨x,hx,hxb⟩
     · exact h1.1 h0
     · exact hZ b ((h.it x (List.mem_append_left _ hx)).2 b hxb h0)
   · rcases pX.1 hi with hi | hi
     · exact hf.2 it hi hb'
     · have h1:=it.bd w (h.it it (List.mem_append_right _ hi)).1 b hb';rcases hf.1 h1 with h2 | ⟨x,hx,hxb⟩
       · exact h2.2 it (List.mem_append_right _ hi) hb'
       · exact hpw.2.2 x hx it hi b hxb hb'
 · exact hb.da d (List.mem_append_right _ hd)
theorem Bx.Kt (h:Bx w0 w Z G L D)(hZ:∀ b,G b->Z b)(i j:Nat){α:Type}[Rp α]{base:Nat}{e:TypeId}{A:Option Addr}{c:Nat}{cs:List (List Value)}{l:List α}(hi:L[i]?=some (.own base A c e (Rp.sz α) cs))(hj:D[j]?=some (.els cs l)) :Bx w0 w Z G (L.eraseIdx i) (.l A c l :: D.eraseIdx j):=by
 have h1:Bx w0 w Z G (L.eraseIdx i) (D.eraseIdx j):=(h.er i).AR fun d hd=>(List.eraseIdx_sublist D j).subset hd;have h2:=(h.er i).de j hj;refine h1.jX (d:=.l A c l) ((h.bo i hi).WQ h2 fun b hb=>⟨fun hl=>?_,fun it hit hb'=>?_⟩)
 · exact hZ b ((h.it _ (vM hi)).2 b hb hl)
 · have hp:=(Ef hi).pairwise_iff (R:=Ap) (fun {a c} r b hb hc=>r b hc hb);exact (Bu.1 (hp.1 h.pw)).1 it hit b hb hb'
end
def Da.wp (d:Da)(p:Prop):Da:=⟨fun F w=>d.ok F w/\p,fun h k=>⟨d.mv h.1 k,h.2⟩⟩
def JV (w:World)(t:TypeId):List Nat→List (List Value)→Prop
 | b :: B,c :: C=>uO w b t c.toArray/\JV w t B C
 | [],[]=>True
 | _,_=>False
section
variable {w w':World}{t:TypeId}
theorem JV.len:∀ {B:List Nat}{C:List (List Value)},JV w t B C→B.length=C.length
 | [],[],_=>rfl
 | _ :: _,_ :: _,h=>congrArg (·+1) (JV.len h.2)
 | [],_ :: _,h=>h.elim
 | _ :: _,[],h=>h.elim
theorem JV.get:∀ {B:List Nat}{C:List (List Value)}{k:Nat}{c:List Value},JV w t B C→C[k]?=some c→∃ b,B[k]?=some b∧uO w b t c.toArray
 | b :: _,_ :: _,0,c,h,hx=>by simp only [Eu,Dz] at hx;subst hx;exact ⟨b,rfl,h.1⟩
 | _ :: _,_ :: _,k+1,c,h,hx=>JV.get (k:=k) h.2 (by simpa using hx)
 | [],[],_,_,_,hx=>by simp at hx
 | [],_ :: _,_,_,h,_=>h.elim
 | _ :: _,[],_,_,h,_=>h.elim
theorem JV.mem:∀ {B:List Nat}{C:List (List Value)}{b:Nat},JV w t B C→b ∈ B→b < w.heap.size
 | _ :: _,_ :: _,b,h,hb=>by
  rcases oM.1 hb with rfl | hb
  · exact h.1.lt
  · exact JV.mem h.2 hb
 | [],[],_,_,hb=>by cases hb
 | [],_ :: _,_,h,_=>h.elim
 | _ :: _,[],_,h,_=>h.elim
theorem JV.st:∀ {B:List Nat}{C:List (List Value)},JV w t B C→(∀ b ∈ B,w'.heap[b]?=w.heap[b]?)→JV w' t B C
 | _ :: _,_ :: _,h,k=>⟨by have:=h.1;unfold uO at this ⊢;rw [k _ (Bl ..)];exact this,JV.st h.2 fun b hb=>k b (yw _ hb)⟩
 | [],[],_,_=>trivial
 | [],_ :: _,h,_=>h.elim
 | _ :: _,[],h,_=>h.elim
theorem JV.app:∀ {B:List Nat}{C:List (List Value)}{b:Nat}{c:List Value},JV w t B C→uO w b t c.toArray→JV w t (B ++ [b]) (C ++ [c])
 | _ :: _,_ :: _,_,_,h,k=>⟨h.1,JV.app h.2 k⟩
 | [],[],_,_,_,k=>⟨k,trivial⟩
 | [],_ :: _,_,_,h,_=>h.elim
 | _ :: _,[],_,_,h,_=>h.elim
theorem JV.set:∀ {B:List Nat}{C:List (List Value)}{k b:Nat}{c:List Value},JV w t B C→B.Nodup→B[k]?=some b→uO w' b t c.toArray→(∀ x ∈ B,x≠b→w'.heap[x]?=w.heap[x]?)→JV w' t B (C.set k c)
 | x :: B,y :: C,0,b,c,h,hn,hb,hc,hs=>by simp only [Eu,Dz] at hb;subst hb;exact ⟨hc,h.2.st fun z hz=>hs z (yw _ hz) (fun e=>(List.nodup_cons.1 hn).1 (by rw [<-e];exact hz))⟩
 | x :: B,y :: C,k+1,b,c,h,hn,hb,hc,hs=>by
  have hb':B[k]?=some b:=by simpa using hb
  refine ⟨?_,JV.set h.2 (List.nodup_cons.1 hn).2 hb' hc fun z hz=>hs z (yw _ hz)⟩;have:=h.1;unfold uO at this ⊢;rw [hs x (Bl ..) (fun e=>(List.nodup_cons.1 hn).1 (by rw [e];exact vM hb'))];exact this
 | [],[],_,_,_,_,_,hb,_,_=>by simp at hb
 | [],_ :: _,_,_,_,h,_,_,_,_=>h.elim
 | _ :: _,[],_,_,_,h,_,_,_,_=>h.elim
end
def It.Po (t:TypeId)(B:List Nat)(C:List (List Value)):It where
 F k:=k ∈ B
 p w:=JV w t B C/\B.Nodup
 bd w h k hk:=h.1.mem hk
 st w w' h k _:=⟨h.1.st k,h.2⟩
def It.OJ {κ ν:Type}(ek:κ->Value)(ev:ν->Value)(b:Option Nat)(l:Option (List (κ × ν))):It where
 F k:=b=some k
 p w:=match b,l with
  | some b,some l=>Mp ek ev w b l
  | none,none=>True
  | _,_=>False
 bd w h k hk:=by subst hk;cases l with
  | none=>exact h.elim
  | some l=>exact Mp.lt h
 st w w' h k _:=by
  cases b with
  | none=>cases l with
   | none=>trivial
   | some l=>exact h.elim
  | some b=>cases l with
   | none=>exact h.elim
   | some l=>exact Mp.same h (k b rfl)
section
variable {P:Program}{w0 w w':World}{Z G:Nat->Prop}{L:List It}{D:List Da}
theorem Bx.Zi (h:Bx w0 w Z G L D)(i j:Nat){t:TypeId}{B:List Nat}{C:List (List Value)}{b:Nat}{c:List Value}(hij:i≠j)(hi:L[i]?=some (.Po t B C))(hj:L[j]?=some (.box b t c.toArray)) :Bx w0 w Z G ((L.set i (.Po t (B ++ [b]) (C ++ [c]))).eraseIdx j) D:=by
 have h1:=h.at i hi;have h2:=h.bk j hj;have hnb:b ∉ B:=fun hb=>h.apart hij hi hj b hb rfl;have hp:(It.Po t (B ++ [b]) (C ++ [c])).p w:=⟨h1.1.app h2,by
   rw [List.nodup_append];exact ⟨h1.2,by simp,fun a ha x hx e=>by rw [List.mem_singleton] at hx;subst hx;exact hnb (e ▸ ha)⟩⟩
 have hcase:∀ x ∈ (L.set i (.Po t (B ++ [b]) (C ++ [c]))).eraseIdx j,x=.Po t (B ++ [b]) (C ++ [c])\/∃ q,q≠i/\q≠j/\L[q]?=some x:=fun x hx=>by
   obtain ⟨q,hq⟩:=QY hx;rw [List.getElem?_eraseIdx] at hq;have key:∀ q:Nat,q≠j->(L.set i (.Po t (B ++ [b]) (C ++ [c])))[q]?=some x->x=.Po t (B ++ [b]) (C ++ [c])\/∃ q,q≠i/\q≠j/\L[q]?=some x:=fun q hqj hq=>by
     by_cases hqi:q=i
     · subst hqi;rw [Bz (List.getElem?_eq_some_iff.1 hi).1] at hq;cases hq;exact .inl rfl
     · rw [zu (Ne.symm hqi)] at hq;exact .inr ⟨q,hqi,hqj,hq⟩
   split at hq
   · exact key q (by omega) hq
   · exact key (q+1) (by omega) hq
 refine h.step (X:=fun _=>False) ((Ext.refl w).Gf _) (fun _ hx=>hx.elim) (fun x hx=>?_) (fun x hx k hk hl=>?_) ?_
 · rcases hcase x hx with rfl | ⟨q,_,_,hq⟩
   · exact hp
   · exact h.at q hq
 · rcases hcase x hx with rfl | ⟨q,_,_,hq⟩
   · rcases pX.1 (show k ∈ B ++ [b] from hk) with hk | hk
     · exact ⟨_,vM hi,hk⟩
     · exact ⟨_,vM hj,List.mem_singleton.1 hk⟩
   · exact ⟨x,vM hq,hk⟩
 · -- apart
   have hs:((L.set i (.Po t (B ++ [b]) (C ++ [c]))).eraseIdx j).Pairwise Ap:=by
     have e1:(L.set i (.Po t (B ++ [b]) (C ++ [c]))).eraseIdx j=(L.eraseIdx j).set (if i < j then i else i - 1) (.Po t (B ++ [b]) (C ++ [c])):=by apply List.ext_getElem?;intro n;simp only [List.getElem?_eraseIdx,List.getElem?_set,List.length_eraseIdx];have hl1:=(List.getElem?_eq_some_iff.1 hi).1;have hl2:=(List.getElem?_eq_some_iff.1 hj).1;split <;> split <;> split <;> simp_all <;> omega
     rw [e1];refine RS (h.pw.sublist (List.eraseIdx_sublist L j)) fun q x hq hx=>?_;obtain ⟨q',hq',hqj,hx'⟩:∃ q',q'≠i/\q'≠j/\L[q']?=some x:=by
       rw [List.getElem?_eraseIdx] at hx;split at hx
       · rename_i hlt;exact ⟨q,by split at hq <;> omega,by omega,hx⟩
       · rename_i hlt;exact ⟨q+1,by split at hq <;> omega,by omega,hx⟩
     have key:∀ k,x.F k->¬ (It.Po t (B ++ [b]) (C ++ [c])).F k:=fun k hk hk2=>by
       rcases pX.1 (show k ∈ B ++ [b] from hk2) with h3 | h3
       · exact h.apart hq' hx' hi k hk h3
       · exact h.apart hqj hx' hj k hk (List.mem_singleton.1 h3)
     exact ⟨key,fun k h1 h2=>key k h2 h1⟩
   exact hs
end
end Go.Fw
