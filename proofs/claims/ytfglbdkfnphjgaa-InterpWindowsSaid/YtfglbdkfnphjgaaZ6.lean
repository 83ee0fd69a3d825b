/- Fields, loads and lengths among the steps that need no choice. -/
import Derived.Test.YtfglbdkfnphjgaaZ5
set_option linter.unusedVariables false
namespace Go.Proofs.Ytfglbdkfnphjgaa
open Go.RowKit Go.Fw
theorem MC:TI Try.prog 36 sn 1 24:=om (by kernel_rfl)
theorem O9:TI Try.prog 87 sn 1 24:=om (by kernel_rfl)
theorem Qi:TI Try.prog 118 sn 1 24:=om (by kernel_rfl)
theorem YB:TI Try.prog 86 (.pointer none) 1 8:=om (by kernel_rfl)
theorem ND:TI Try.prog 117 (.pointer none) 1 8:=om (by kernel_rfl)
theorem WT:TI Try.prog 90 (V 0) 1 8:=om (by kernel_rfl)
theorem Z5:TI Try.prog 91 (V 0) 1 8:=om (by kernel_rfl)
section
variable {N:Fz} {ops:Array Oper} {K:KK} {rest:List Oper} {f:Fr} {w w0:World} {d:Option Nat} {ty:TypeId} {pos:String} {af:Array Edge} {x:Operand} {b o:Nat} {Z G:Nat→Prop} {Lt:List It} {D:List Da}
theorem RH (h:ev f x=.pointer (some ⟨b,o,none⟩)) (k:kQ Try.prog N ops K rest (kG f d (.pointer (some ⟨b,o,none⟩))) w):kQ Try.prog N ops K (⟨d,.fieldAddr 138 x 0,ty,pos,af,none⟩ :: rest) f w:=jR (qN Try.underlying138 rfl rfl mK (by decide) h) k
theorem SN (h:ev f x=.pointer (some ⟨b,o,none⟩)) (k:kQ Try.prog N ops K rest (kG f d (.pointer (some ⟨b,o+1,none⟩))) w):kQ Try.prog N ops K (⟨d,.fieldAddr 138 x 1,ty,pos,af,none⟩ :: rest) f w:=jR (kY (k:=1) Try.underlying138 rfl rfl mK (by decide) h) k
theorem SA (h:ev f x=.pointer (some ⟨b,o,none⟩)) (k:kQ Try.prog N ops K rest (kG f d (.pointer (some ⟨b,o+2,none⟩))) w):kQ Try.prog N ops K (⟨d,.fieldAddr 138 x 2,ty,pos,af,none⟩ :: rest) f w:=jR (kY (k:=2) Try.underlying138 rfl rfl mK (by decide) h) k
theorem Rv (h:ev f x=.pointer (some ⟨b,o,none⟩)) (k:kQ Try.prog N ops K rest (kG f d (.pointer (some ⟨b,o+3,none⟩))) w):kQ Try.prog N ops K (⟨d,.fieldAddr 138 x 3,ty,pos,af,none⟩ :: rest) f w:=jR (kY (k:=3) Try.underlying138 rfl rfl nW (by decide) h) k
theorem SQ (h:ev f x=.pointer (some ⟨b,o,none⟩)) (k:kQ Try.prog N ops K rest (kG f d (.pointer (some ⟨b,o+4,none⟩))) w):kQ Try.prog N ops K (⟨d,.fieldAddr 138 x 4,ty,pos,af,none⟩ :: rest) f w:=jR (kY (k:=4) Try.underlying138 rfl rfl nW (by decide) h) k
theorem R9 (h:ev f x=.pointer (some ⟨b,o,none⟩)) (k:kQ Try.prog N ops K rest (kG f d (.pointer (some ⟨b,o+5,none⟩))) w):kQ Try.prog N ops K (⟨d,.fieldAddr 138 x 5,ty,pos,af,none⟩ :: rest) f w:=jR (kY (k:=5) Try.underlying138 rfl rfl rW (by decide) h) k
theorem Ri (h:ev f x=.pointer (some ⟨b,o,none⟩)) (k:kQ Try.prog N ops K rest (kG f d (.pointer (some ⟨b,o,none⟩))) w):kQ Try.prog N ops K (⟨d,.fieldAddr 111 x 0,ty,pos,af,none⟩ :: rest) f w:=jR (qN Try.underlying111 rfl rfl mK (by decide) h) k
theorem Rh (h:ev f x=.pointer (some ⟨b,o,none⟩)) (k:kQ Try.prog N ops K rest (kG f d (.pointer (some ⟨b,o+1,none⟩))) w):kQ Try.prog N ops K (⟨d,.fieldAddr 111 x 1,ty,pos,af,none⟩ :: rest) f w:=jR (kY (k:=1) Try.underlying111 rfl rfl mK (by decide) h) k
theorem Rm (h:ev f x=.pointer (some ⟨b,o,none⟩)) (k:kQ Try.prog N ops K rest (kG f d (.pointer (some ⟨b,o+2,none⟩))) w):kQ Try.prog N ops K (⟨d,.fieldAddr 111 x 2,ty,pos,af,none⟩ :: rest) f w:=jR (kY (k:=2) Try.underlying111 rfl rfl mK (by decide) h) k
theorem Rq (h:ev f x=.pointer (some ⟨b,o,none⟩)) (k:kQ Try.prog N ops K rest (kG f d (.pointer (some ⟨b,o+3,none⟩))) w):kQ Try.prog N ops K (⟨d,.fieldAddr 111 x 3,ty,pos,af,none⟩ :: rest) f w:=jR (kY (k:=3) Try.underlying111 rfl rfl nW (by decide) h) k
theorem S9 (h:ev f x=.pointer (some ⟨b,o,none⟩)) (k:kQ Try.prog N ops K rest (kG f d (.pointer (some ⟨b,o+4,none⟩))) w):kQ Try.prog N ops K (⟨d,.fieldAddr 111 x 4,ty,pos,af,none⟩ :: rest) f w:=jR (kY (k:=4) Try.underlying111 rfl rfl nW (by decide) h) k
theorem Sq (h:ev f x=.pointer (some ⟨b,o,none⟩)) (k:kQ Try.prog N ops K rest (kG f d (.pointer (some ⟨b,o+5,none⟩))) w):kQ Try.prog N ops K (⟨d,.fieldAddr 111 x 5,ty,pos,af,none⟩ :: rest) f w:=jR (kY (k:=5) Try.underlying111 rfl rfl mK (by decide) h) k
theorem RJ (h:ev f x=.pointer (some ⟨b,o,none⟩)) (k:kQ Try.prog N ops K rest (kG f d (.pointer (some ⟨b,o+6,none⟩))) w):kQ Try.prog N ops K (⟨d,.fieldAddr 111 x 6,ty,pos,af,none⟩ :: rest) f w:=jR (kY (k:=6) Try.underlying111 rfl rfl mK (by decide) h) k
theorem Rb (h:ev f x=.pointer (some ⟨b,o,none⟩)) (k:kQ Try.prog N ops K rest (kG f d (.pointer (some ⟨b,o+7,none⟩))) w):kQ Try.prog N ops K (⟨d,.fieldAddr 111 x 7,ty,pos,af,none⟩ :: rest) f w:=jR (kY (k:=7) Try.underlying111 rfl rfl rW (by decide) h) k
theorem SB (h:ev f x=.pointer (some ⟨b,o,none⟩)) (k:kQ Try.prog N ops K rest (kG f d (.pointer (some ⟨b,o+8,none⟩))) w):kQ Try.prog N ops K (⟨d,.fieldAddr 111 x 8,ty,pos,af,none⟩ :: rest) f w:=jR (kY (k:=8) Try.underlying111 rfl rfl nW (by decide) h) k
theorem Sc (h:ev f x=.pointer (some ⟨b,o,none⟩)) (k:kQ Try.prog N ops K rest (kG f d (.pointer (some ⟨b,o+9,none⟩))) w):kQ Try.prog N ops K (⟨d,.fieldAddr 111 x 9,ty,pos,af,none⟩ :: rest) f w:=jR (kY (k:=9) Try.underlying111 rfl rfl mK (by decide) h) k
theorem OZ (h:ev f x=.pointer (some ⟨b,o,none⟩)) (k:kQ Try.prog N ops K rest (kG f d (.pointer (some ⟨b,o+10,none⟩))) w):kQ Try.prog N ops K (⟨d,.fieldAddr 111 x 10,ty,pos,af,none⟩ :: rest) f w:=jR (kY (k:=10) Try.underlying111 rfl rfl rW (by decide) h) k
theorem Qd (h:ev f x=.pointer (some ⟨b,o,none⟩)) (k:kQ Try.prog N ops K rest (kG f d (.pointer (some ⟨b,o+11,none⟩))) w):kQ Try.prog N ops K (⟨d,.fieldAddr 111 x 11,ty,pos,af,none⟩ :: rest) f w:=jR (kY (k:=11) Try.underlying111 rfl rfl zf (by decide) h) k
theorem O3 (h:ev f x=.pointer (some ⟨b,o,none⟩)) (k:kQ Try.prog N ops K rest (kG f d (.pointer (some ⟨b,o+12,none⟩))) w):kQ Try.prog N ops K (⟨d,.fieldAddr 111 x 12,ty,pos,af,none⟩ :: rest) f w:=jR (kY (k:=12) Try.underlying111 rfl rfl zf (by decide) h) k
theorem Sv (h:ev f x=.pointer (some ⟨b,o,none⟩)) (k:kQ Try.prog N ops K rest (kG f d (.pointer (some ⟨b,o,none⟩))) w):kQ Try.prog N ops K (⟨d,.fieldAddr 120 x 0,ty,pos,af,none⟩ :: rest) f w:=jR (qN Try.underlying120 rfl rfl mK (by decide) h) k
theorem MX (h:ev f x=.pointer (some ⟨b,o,none⟩)) (k:kQ Try.prog N ops K rest (kG f d (.pointer (some ⟨b,o+1,none⟩))) w):kQ Try.prog N ops K (⟨d,.fieldAddr 120 x 1,ty,pos,af,none⟩ :: rest) f w:=jR (kY (k:=1) Try.underlying120 rfl rfl mK (by decide) h) k
theorem R6 (h:ev f x=.pointer (some ⟨b,o,none⟩)) (k:kQ Try.prog N ops K rest (kG f d (.pointer (some ⟨b,o+2,none⟩))) w):kQ Try.prog N ops K (⟨d,.fieldAddr 120 x 2,ty,pos,af,none⟩ :: rest) f w:=jR (kY (k:=2) Try.underlying120 rfl rfl Qi (by decide) h) k
theorem Uj (h:ev f x=.pointer (some ⟨b,o,none⟩)) (k:kQ Try.prog N ops K rest (kG f d (.pointer (some ⟨b,o,none⟩))) w):kQ Try.prog N ops K (⟨d,.fieldAddr 89 x 0,ty,pos,af,none⟩ :: rest) f w:=jR (qN Try.underlying89 rfl rfl vZ (by decide) h) k
theorem Vu (h:ev f x=.pointer (some ⟨b,o,none⟩)) (k:kQ Try.prog N ops K rest (kG f d (.pointer (some ⟨b,o+4,none⟩))) w):kQ Try.prog N ops K (⟨d,.fieldAddr 89 x 1,ty,pos,af,none⟩ :: rest) f w:=jR (kY (k:=4) Try.underlying89 rfl rfl O9 (by decide) h) k
theorem Vw (h:ev f x=.pointer (some ⟨b,o,none⟩)) (k:kQ Try.prog N ops K rest (kG f d (.pointer (some ⟨b,o+5,none⟩))) w):kQ Try.prog N ops K (⟨d,.fieldAddr 89 x 2,ty,pos,af,none⟩ :: rest) f w:=jR (kY (k:=5) Try.underlying89 rfl rfl mK (by decide) h) k
theorem Uv (h:ev f x=.pointer (some ⟨b,o,none⟩)) (k:kQ Try.prog N ops K rest (kG f d (.pointer (some ⟨b,o+6,none⟩))) w):kQ Try.prog N ops K (⟨d,.fieldAddr 89 x 3,ty,pos,af,none⟩ :: rest) f w:=jR (kY (k:=6) Try.underlying89 rfl rfl mK (by decide) h) k
theorem Vh (h:ev f x=.pointer (some ⟨b,o,none⟩)) (k:kQ Try.prog N ops K rest (kG f d (.pointer (some ⟨b,o+7,none⟩))) w):kQ Try.prog N ops K (⟨d,.fieldAddr 89 x 4,ty,pos,af,none⟩ :: rest) f w:=jR (kY (k:=7) Try.underlying89 rfl rfl mK (by decide) h) k
theorem Vb (h:ev f x=.pointer (some ⟨b,o,none⟩)) (k:kQ Try.prog N ops K rest (kG f d (.pointer (some ⟨b,o+8,none⟩))) w):kQ Try.prog N ops K (⟨d,.fieldAddr 89 x 5,ty,pos,af,none⟩ :: rest) f w:=jR (kY (k:=8) Try.underlying89 rfl rfl mK (by decide) h) k
theorem WB (h:ev f x=.pointer (some ⟨b,o,none⟩)) (k:kQ Try.prog N ops K rest (kG f d (.pointer (some ⟨b,o+9,none⟩))) w):kQ Try.prog N ops K (⟨d,.fieldAddr 89 x 6,ty,pos,af,none⟩ :: rest) f w:=jR (kY (k:=9) Try.underlying89 rfl rfl MC (by decide) h) k
theorem Uq (h:ev f x=.pointer (some ⟨b,o,none⟩)) (k:kQ Try.prog N ops K rest (kG f d (.pointer (some ⟨b,o+10,none⟩))) w):kQ Try.prog N ops K (⟨d,.fieldAddr 89 x 7,ty,pos,af,none⟩ :: rest) f w:=jR (kY (k:=10) Try.underlying89 rfl rfl Ak (by decide) h) k
theorem VZ (h:ev f x=.pointer (some ⟨b,o,none⟩)) (k:kQ Try.prog N ops K rest (kG f d (.pointer (some ⟨b,o,none⟩))) w):kQ Try.prog N ops K (⟨d,.fieldAddr 30 x 0,ty,pos,af,none⟩ :: rest) f w:=jR (qN Try.underlying30 rfl rfl sD (by decide) h) k
theorem Vm (h:ev f x=.pointer (some ⟨b,o,none⟩)) (k:kQ Try.prog N ops K rest (kG f d (.pointer (some ⟨b,o+2,none⟩))) w):kQ Try.prog N ops K (⟨d,.fieldAddr 30 x 1,ty,pos,af,none⟩ :: rest) f w:=jR (kY (k:=2) Try.underlying30 rfl rfl WU (by decide) h) k
theorem Us (h:ev f x=.pointer (some ⟨b,o,none⟩)) (k:kQ Try.prog N ops K rest (kG f d (.pointer (some ⟨b,o+3,none⟩))) w):kQ Try.prog N ops K (⟨d,.fieldAddr 30 x 2,ty,pos,af,none⟩ :: rest) f w:=jR (kY (k:=3) Try.underlying30 rfl rfl WO (by decide) h) k
theorem U0 (h:ev f x=.pointer (some ⟨b,o,none⟩)) (k:kQ Try.prog N ops K rest (kG f d (.pointer (some ⟨b,o,none⟩))) w):kQ Try.prog N ops K (⟨d,.fieldAddr 26 x 0,ty,pos,af,none⟩ :: rest) f w:=jR (qN Try.underlying26 rfl rfl VT (by decide) h) k
theorem UA (h:ev f x=.pointer (some ⟨b,o,none⟩)) (k:kQ Try.prog N ops K rest (kG f d (.pointer (some ⟨b,o+1,none⟩))) w):kQ Try.prog N ops K (⟨d,.fieldAddr 26 x 1,ty,pos,af,none⟩ :: rest) f w:=jR (kY (k:=1) Try.underlying26 rfl rfl Rc (by decide) h) k
theorem UD (h:ev f x=.pointer (some ⟨b,o,none⟩)) (k:kQ Try.prog N ops K rest (kG f d (.pointer (some ⟨b,o,none⟩))) w):kQ Try.prog N ops K (⟨d,.fieldAddr 82 x 0,ty,pos,af,none⟩ :: rest) f w:=jR (qN Try.underlying82 rfl rfl nW (by decide) h) k
theorem VO (h:ev f x=.pointer (some ⟨b,o,none⟩)) (k:kQ Try.prog N ops K rest (kG f d (.pointer (some ⟨b,o+1,none⟩))) w):kQ Try.prog N ops K (⟨d,.fieldAddr 82 x 1,ty,pos,af,none⟩ :: rest) f w:=jR (kY (k:=1) Try.underlying82 rfl rfl mK (by decide) h) k
theorem Uw (h:ev f x=.pointer (some ⟨b,o,none⟩)) (k:kQ Try.prog N ops K rest (kG f d (.pointer (some ⟨b,o+2,none⟩))) w):kQ Try.prog N ops K (⟨d,.fieldAddr 82 x 2,ty,pos,af,none⟩ :: rest) f w:=jR (kY (k:=2) Try.underlying82 rfl rfl nS (by decide) h) k
theorem U8 (h:ev f x=.pointer (some ⟨b,o,none⟩)) (k:kQ Try.prog N ops K rest (kG f d (.pointer (some ⟨b,o+3,none⟩))) w):kQ Try.prog N ops K (⟨d,.fieldAddr 82 x 3,ty,pos,af,none⟩ :: rest) f w:=jR (kY (k:=3) Try.underlying82 rfl rfl zf (by decide) h) k
theorem UL (h:ev f x=.pointer (some ⟨b,o,none⟩)) (k:kQ Try.prog N ops K rest (kG f d (.pointer (some ⟨b,o,none⟩))) w):kQ Try.prog N ops K (⟨d,.fieldAddr 59 x 0,ty,pos,af,none⟩ :: rest) f w:=jR (qN Try.underlying59 rfl rfl nW (by decide) h) k
theorem UU (h:ev f x=.pointer (some ⟨b,o,none⟩)) (k:kQ Try.prog N ops K rest (kG f d (.pointer (some ⟨b,o+1,none⟩))) w):kQ Try.prog N ops K (⟨d,.fieldAddr 59 x 1,ty,pos,af,none⟩ :: rest) f w:=jR (kY (k:=1) Try.underlying59 rfl rfl mK (by decide) h) k
theorem Vd (h:ev f x=.pointer (some ⟨b,o,none⟩)) (k:kQ Try.prog N ops K rest (kG f d (.pointer (some ⟨b,o+2,none⟩))) w):kQ Try.prog N ops K (⟨d,.fieldAddr 59 x 2,ty,pos,af,none⟩ :: rest) f w:=jR (kY (k:=2) Try.underlying59 rfl rfl mK (by decide) h) k
theorem UZ (h:ev f x=.pointer (some ⟨b,o,none⟩)) (k:kQ Try.prog N ops K rest (kG f d (.pointer (some ⟨b,o+3,none⟩))) w):kQ Try.prog N ops K (⟨d,.fieldAddr 59 x 3,ty,pos,af,none⟩ :: rest) f w:=jR (kY (k:=3) Try.underlying59 rfl rfl mK (by decide) h) k
theorem Wm (h:ev f x=.pointer (some ⟨b,o,none⟩)) (k:kQ Try.prog N ops K rest (kG f d (.pointer (some ⟨b,o+4,none⟩))) w):kQ Try.prog N ops K (⟨d,.fieldAddr 59 x 4,ty,pos,af,none⟩ :: rest) f w:=jR (kY (k:=4) Try.underlying59 rfl rfl LD (by decide) h) k
theorem WR (h:ev f x=.pointer (some ⟨b,o,none⟩)) (k:kQ Try.prog N ops K rest (kG f d (.pointer (some ⟨b,o+5,none⟩))) w):kQ Try.prog N ops K (⟨d,.fieldAddr 59 x 5,ty,pos,af,none⟩ :: rest) f w:=jR (kY (k:=5) Try.underlying59 rfl rfl mK (by decide) h) k
theorem UC (h:ev f x=.pointer (some ⟨b,o,none⟩)) (k:kQ Try.prog N ops K rest (kG f d (.pointer (some ⟨b,o+6,none⟩))) w):kQ Try.prog N ops K (⟨d,.fieldAddr 59 x 6,ty,pos,af,none⟩ :: rest) f w:=jR (kY (k:=6) Try.underlying59 rfl rfl mK (by decide) h) k
theorem Ux (h:ev f x=.pointer (some ⟨b,o,none⟩)) (k:kQ Try.prog N ops K rest (kG f d (.pointer (some ⟨b,o,none⟩))) w):kQ Try.prog N ops K (⟨d,.fieldAddr 53 x 0,ty,pos,af,none⟩ :: rest) f w:=jR (qN Try.underlying53 rfl rfl mK (by decide) h) k
theorem Ut (h:ev f x=.pointer (some ⟨b,o,none⟩)) (k:kQ Try.prog N ops K rest (kG f d (.pointer (some ⟨b,o+1,none⟩))) w):kQ Try.prog N ops K (⟨d,.fieldAddr 53 x 1,ty,pos,af,none⟩ :: rest) f w:=jR (kY (k:=1) Try.underlying53 rfl rfl mK (by decide) h) k
theorem Vj (h:ev f x=.pointer (some ⟨b,o,none⟩)) (k:kQ Try.prog N ops K rest (kG f d (.pointer (some ⟨b,o+2,none⟩))) w):kQ Try.prog N ops K (⟨d,.fieldAddr 53 x 2,ty,pos,af,none⟩ :: rest) f w:=jR (kY (k:=2) Try.underlying53 rfl rfl WA (by decide) h) k
theorem V4 (h:ev f x=.pointer (some ⟨b,o,none⟩)) (k:kQ Try.prog N ops K rest (kG f d (.pointer (some ⟨b,o,none⟩))) w):kQ Try.prog N ops K (⟨d,.fieldAddr 50 x 0,ty,pos,af,none⟩ :: rest) f w:=jR (qN Try.underlying50 rfl rfl Rk (by decide) h) k
theorem Wp (h:ev f x=.pointer (some ⟨b,o,none⟩)) (k:kQ Try.prog N ops K rest (kG f d (.pointer (some ⟨b,o,none⟩))) w):kQ Try.prog N ops K (⟨d,.fieldAddr 39 x 0,ty,pos,af,none⟩ :: rest) f w:=jR (qN Try.underlying39 rfl rfl KO (by decide) h) k
theorem WM (h:ev f x=.pointer (some ⟨b,o,none⟩)) (k:kQ Try.prog N ops K rest (kG f d (.pointer (some ⟨b,o+1,none⟩))) w):kQ Try.prog N ops K (⟨d,.fieldAddr 39 x 1,ty,pos,af,none⟩ :: rest) f w:=jR (kY (k:=1) Try.underlying39 rfl rfl LD (by decide) h) k
theorem U9 (h:ev f x=.pointer (some ⟨b,o,none⟩)) (k:kQ Try.prog N ops K rest (kG f d (.pointer (some ⟨b,o+2,none⟩))) w):kQ Try.prog N ops K (⟨d,.fieldAddr 39 x 2,ty,pos,af,none⟩ :: rest) f w:=jR (kY (k:=2) Try.underlying39 rfl rfl mK (by decide) h) k
theorem VX (h:ev f x=.pointer (some ⟨b,o,none⟩)) (k:kQ Try.prog N ops K rest (kG f d (.pointer (some ⟨b,o+3,none⟩))) w):kQ Try.prog N ops K (⟨d,.fieldAddr 39 x 3,ty,pos,af,none⟩ :: rest) f w:=jR (kY (k:=3) Try.underlying39 rfl rfl Ak (by decide) h) k
theorem V9 {t:TypeId} {cs:Array Value} {v:Value} (h:ev f x=.pointer (some ⟨b,o,none⟩)) (hb:mM w b t cs) (hi:cs[o]?=some v) (k:kQ Try.prog N ops K rest (kG f d v) w):kQ Try.prog N ops K (⟨d,.load 3 x,ty,pos,af,none⟩ :: rest) f w:=jR (jM Try.underlying3 rfl h (hb.cell hi)) k
theorem WW {t:TypeId} {cs:Array Value} {v:Value} (h:ev f x=.pointer (some ⟨b,o,none⟩)) (hb:mM w b t cs) (hi:cs[o]?=some v) (k:kQ Try.prog N ops K rest (kG f d v) w):kQ Try.prog N ops K (⟨d,.load 4 x,ty,pos,af,none⟩ :: rest) f w:=jR (jM Try.underlying4 rfl h (hb.cell hi)) k
theorem W9 {t:TypeId} {cs:Array Value} {v:Value} (h:ev f x=.pointer (some ⟨b,o,none⟩)) (hb:mM w b t cs) (hi:cs[o]?=some v) (k:kQ Try.prog N ops K rest (kG f d v) w):kQ Try.prog N ops K (⟨d,.load 9 x,ty,pos,af,none⟩ :: rest) f w:=jR (jM Try.underlying9 rfl h (hb.cell hi)) k
theorem Ox {t:TypeId} {cs:Array Value} {v:Value} (h:ev f x=.pointer (some ⟨b,o,none⟩)) (hb:mM w b t cs) (hi:cs[o]?=some v) (k:kQ Try.prog N ops K rest (kG f d v) w):kQ Try.prog N ops K (⟨d,.load 22 x,ty,pos,af,none⟩ :: rest) f w:=jR (jM Try.underlying22 rfl h (hb.cell hi)) k
theorem OO {t:TypeId} {cs:Array Value} {v:Value} (h:ev f x=.pointer (some ⟨b,o,none⟩)) (hb:mM w b t cs) (hi:cs[o]?=some v) (k:kQ Try.prog N ops K rest (kG f d v) w):kQ Try.prog N ops K (⟨d,.load 24 x,ty,pos,af,none⟩ :: rest) f w:=jR (jM Try.underlying24 rfl h (hb.cell hi)) k
theorem OE {t:TypeId} {cs:Array Value} {v:Value} (h:ev f x=.pointer (some ⟨b,o,none⟩)) (hb:mM w b t cs) (hi:cs[o]?=some v) (k:kQ Try.prog N ops K rest (kG f d v) w):kQ Try.prog N ops K (⟨d,.load 27 x,ty,pos,af,none⟩ :: rest) f w:=jR (jM Try.underlying27 rfl h (hb.cell hi)) k
theorem OG {t:TypeId} {cs:Array Value} {v:Value} (h:ev f x=.pointer (some ⟨b,o,none⟩)) (hb:mM w b t cs) (hi:cs[o]?=some v) (k:kQ Try.prog N ops K rest (kG f d v) w):kQ Try.prog N ops K (⟨d,.load 36 x,ty,pos,af,none⟩ :: rest) f w:=jR (jM Try.underlying36 rfl h (hb.cell hi)) k
theorem Oh {t:TypeId} {cs:Array Value} {v:Value} (h:ev f x=.pointer (some ⟨b,o,none⟩)) (hb:mM w b t cs) (hi:cs[o]?=some v) (k:kQ Try.prog N ops K rest (kG f d v) w):kQ Try.prog N ops K (⟨d,.load 55 x,ty,pos,af,none⟩ :: rest) f w:=jR (jM Try.underlying55 rfl h (hb.cell hi)) k
theorem Oz {t:TypeId} {cs:Array Value} {v:Value} (h:ev f x=.pointer (some ⟨b,o,none⟩)) (hb:mM w b t cs) (hi:cs[o]?=some v) (k:kQ Try.prog N ops K rest (kG f d v) w):kQ Try.prog N ops K (⟨d,.load 51 x,ty,pos,af,none⟩ :: rest) f w:=jR (jM Try.underlying51 rfl h (hb.cell hi)) k
theorem NW {t:TypeId} {cs:Array Value} {v:Value} (h:ev f x=.pointer (some ⟨b,o,none⟩)) (hb:mM w b t cs) (hi:cs[o]?=some v) (k:kQ Try.prog N ops K rest (kG f d v) w):kQ Try.prog N ops K (⟨d,.load 60 x,ty,pos,af,none⟩ :: rest) f w:=jR (jM Try.underlying60 rfl h (hb.cell hi)) k
theorem Ow {t:TypeId} {cs:Array Value} {v:Value} (h:ev f x=.pointer (some ⟨b,o,none⟩)) (hb:mM w b t cs) (hi:cs[o]?=some v) (k:kQ Try.prog N ops K rest (kG f d v) w):kQ Try.prog N ops K (⟨d,.load 80 x,ty,pos,af,none⟩ :: rest) f w:=jR (jM Try.underlying80 rfl h (hb.cell hi)) k
theorem NS {t:TypeId} {cs:Array Value} {v:Value} (h:ev f x=.pointer (some ⟨b,o,none⟩)) (hb:mM w b t cs) (hi:cs[o]?=some v) (k:kQ Try.prog N ops K rest (kG f d v) w):kQ Try.prog N ops K (⟨d,.load 86 x,ty,pos,af,none⟩ :: rest) f w:=jR (jM Try.underlying86 rfl h (hb.cell hi)) k
theorem MK {t:TypeId} {cs:Array Value} {v:Value} (h:ev f x=.pointer (some ⟨b,o,none⟩)) (hb:mM w b t cs) (hi:cs[o]?=some v) (k:kQ Try.prog N ops K rest (kG f d v) w):kQ Try.prog N ops K (⟨d,.load 87 x,ty,pos,af,none⟩ :: rest) f w:=jR (jM Try.underlying87 rfl h (hb.cell hi)) k
theorem H9 {t:TypeId} {cs:Array Value} {v:Value} (h:ev f x=.pointer (some ⟨b,o,none⟩)) (hb:mM w b t cs) (hi:cs[o]?=some v) (k:kQ Try.prog N ops K rest (kG f d v) w):kQ Try.prog N ops K (⟨d,.load 109 x,ty,pos,af,none⟩ :: rest) f w:=jR (jM Try.underlying109 rfl h (hb.cell hi)) k
theorem Ig {t:TypeId} {cs:Array Value} {v:Value} (h:ev f x=.pointer (some ⟨b,o,none⟩)) (hb:mM w b t cs) (hi:cs[o]?=some v) (k:kQ Try.prog N ops K rest (kG f d v) w):kQ Try.prog N ops K (⟨d,.load 117 x,ty,pos,af,none⟩ :: rest) f w:=jR (jM Try.underlying117 rfl h (hb.cell hi)) k
theorem Fg {t:TypeId} {cs:Array Value} {v:Value} (h:ev f x=.pointer (some ⟨b,o,none⟩)) (hb:mM w b t cs) (hi:cs[o]?=some v) (k:kQ Try.prog N ops K rest (kG f d v) w):kQ Try.prog N ops K (⟨d,.load 118 x,ty,pos,af,none⟩ :: rest) f w:=jR (jM Try.underlying118 rfl h (hb.cell hi)) k
theorem N8 {t:TypeId} {cs:Array Value} {v:Value} (h:ev f x=.pointer (some ⟨b,o,none⟩)) (hb:mM w b t cs) (hi:cs[o]?=some v) (k:kQ Try.prog N ops K rest (kG f d v) w):kQ Try.prog N ops K (⟨d,.load 70 x,ty,pos,af,none⟩ :: rest) f w:=jR (jM Try.underlying70 rfl h (hb.cell hi)) k
theorem aaz {A:Option Addr} {n c:Nat} (h:ev f x=.slice A n c) (k:kQ Try.prog N ops K rest (kG f d (V (n:Int))) w):kQ Try.prog N ops K (⟨d,.call { callee:=.builtin .len,args:=#[x],argTypes:=#[22] },ty,pos,af,none⟩ :: rest) f w:=jR (lu Try.underlying22 h) k
theorem ZJ {A:Option Addr} {n c:Nat} (h:ev f x=.slice A n c) (k:kQ Try.prog N ops K rest (kG f d (V (n:Int))) w):kQ Try.prog N ops K (⟨d,.call { callee:=.builtin .len,args:=#[x],argTypes:=#[24] },ty,pos,af,none⟩ :: rest) f w:=jR (lu Try.underlying24 h) k
theorem ZH {A:Option Addr} {n c:Nat} (h:ev f x=.slice A n c) (k:kQ Try.prog N ops K rest (kG f d (V (n:Int))) w):kQ Try.prog N ops K (⟨d,.call { callee:=.builtin .len,args:=#[x],argTypes:=#[27] },ty,pos,af,none⟩ :: rest) f w:=jR (lu Try.underlying27 h) k
theorem aag {A:Option Addr} {n c:Nat} (h:ev f x=.slice A n c) (k:kQ Try.prog N ops K rest (kG f d (V (n:Int))) w):kQ Try.prog N ops K (⟨d,.call { callee:=.builtin .len,args:=#[x],argTypes:=#[36] },ty,pos,af,none⟩ :: rest) f w:=jR (lu Try.underlying36 h) k
theorem Z8 {A:Option Addr} {n c:Nat} (h:ev f x=.slice A n c) (k:kQ Try.prog N ops K rest (kG f d (V (n:Int))) w):kQ Try.prog N ops K (⟨d,.call { callee:=.builtin .len,args:=#[x],argTypes:=#[51] },ty,pos,af,none⟩ :: rest) f w:=jR (lu Try.underlying51 h) k
theorem Z0 {A:Option Addr} {n c:Nat} (h:ev f x=.slice A n c) (k:kQ Try.prog N ops K rest (kG f d (V (n:Int))) w):kQ Try.prog N ops K (⟨d,.call { callee:=.builtin .len,args:=#[x],argTypes:=#[55] },ty,pos,af,none⟩ :: rest) f w:=jR (lu Try.underlying55 h) k
theorem aas {A:Option Addr} {n c:Nat} (h:ev f x=.slice A n c) (k:kQ Try.prog N ops K rest (kG f d (V (n:Int))) w):kQ Try.prog N ops K (⟨d,.call { callee:=.builtin .len,args:=#[x],argTypes:=#[60] },ty,pos,af,none⟩ :: rest) f w:=jR (lu Try.underlying60 h) k
theorem ZI {A:Option Addr} {n c:Nat} (h:ev f x=.slice A n c) (k:kQ Try.prog N ops K rest (kG f d (V (n:Int))) w):kQ Try.prog N ops K (⟨d,.call { callee:=.builtin .len,args:=#[x],argTypes:=#[80] },ty,pos,af,none⟩ :: rest) f w:=jR (lu Try.underlying80 h) k
theorem Zg {A:Option Addr} {n c:Nat} (h:ev f x=.slice A n c) (k:kQ Try.prog N ops K rest (kG f d (V (n:Int))) w):kQ Try.prog N ops K (⟨d,.call { callee:=.builtin .len,args:=#[x],argTypes:=#[87] },ty,pos,af,none⟩ :: rest) f w:=jR (lu Try.underlying87 h) k
theorem Xf {A:Option Addr} {n c:Nat} (h:ev f x=.slice A n c) (k:kQ Try.prog N ops K rest (kG f d (V (n:Int))) w):kQ Try.prog N ops K (⟨d,.call { callee:=.builtin .len,args:=#[x],argTypes:=#[109] },ty,pos,af,none⟩ :: rest) f w:=jR (lu Try.underlying109 h) k
theorem XT {A:Option Addr} {n c:Nat} (h:ev f x=.slice A n c) (k:kQ Try.prog N ops K rest (kG f d (V (n:Int))) w):kQ Try.prog N ops K (⟨d,.call { callee:=.builtin .len,args:=#[x],argTypes:=#[118] },ty,pos,af,none⟩ :: rest) f w:=jR (lu Try.underlying118 h) k
theorem ZF {A:Option Addr} {n c:Nat} (h:ev f x=.slice A n c) (k:kQ Try.prog N ops K rest (kG f d (V (n:Int))) w):kQ Try.prog N ops K (⟨d,.call { callee:=.builtin .len,args:=#[x],argTypes:=#[70] },ty,pos,af,none⟩ :: rest) f w:=jR (lu Try.underlying70 h) k
end
section
variable {ρ:Operand→Value} {w w0:World} {d:Option Nat} {ty:TypeId} {pos:String} {af:Array Edge} {g:Option (Nat × Bool)} {x:Operand} {b o:Nat}
theorem Tf (h:ρ x=.pointer (some ⟨b,o,none⟩)):Yl Try.prog ρ (.fieldAddr 138 x 2) d ty pos af g w (.pointer (some ⟨b,o+2,none⟩)):=kY (k:=2) Try.underlying138 rfl rfl mK (by decide) h
theorem MV (h:ρ x=.pointer (some ⟨b,o,none⟩)):Yl Try.prog ρ (.fieldAddr 111 x 6) d ty pos af g w (.pointer (some ⟨b,o+6,none⟩)):=kY (k:=6) Try.underlying111 rfl rfl mK (by decide) h
theorem NM (h:ρ x=.pointer (some ⟨b,o,none⟩)):Yl Try.prog ρ (.fieldAddr 111 x 9) d ty pos af g w (.pointer (some ⟨b,o+9,none⟩)):=kY (k:=9) Try.underlying111 rfl rfl mK (by decide) h
theorem CR (h:ρ x=.pointer (some ⟨b,o,none⟩)):Yl Try.prog ρ (.fieldAddr 111 x 10) d ty pos af g w (.pointer (some ⟨b,o+10,none⟩)):=kY (k:=10) Try.underlying111 rfl rfl rW (by decide) h
theorem MU (h:ρ x=.pointer (some ⟨b,o,none⟩)):Yl Try.prog ρ (.fieldAddr 120 x 0) d ty pos af g w (.pointer (some ⟨b,o,none⟩)):=qN Try.underlying120 rfl rfl mK (by decide) h
theorem Nf (h:ρ x=.pointer (some ⟨b,o,none⟩)):Yl Try.prog ρ (.fieldAddr 120 x 1) d ty pos af g w (.pointer (some ⟨b,o+1,none⟩)):=kY (k:=1) Try.underlying120 rfl rfl mK (by decide) h
theorem Dl (h:ρ x=.pointer (some ⟨b,o,none⟩)):Yl Try.prog ρ (.fieldAddr 120 x 2) d ty pos af g w (.pointer (some ⟨b,o+2,none⟩)):=kY (k:=2) Try.underlying120 rfl rfl Qi (by decide) h
theorem Wu (h:ρ x=.pointer (some ⟨b,o,none⟩)):Yl Try.prog ρ (.fieldAddr 89 x 0) d ty pos af g w (.pointer (some ⟨b,o,none⟩)):=qN Try.underlying89 rfl rfl vZ (by decide) h
theorem FL (h:ρ x=.pointer (some ⟨b,o,none⟩)):Yl Try.prog ρ (.fieldAddr 89 x 1) d ty pos af g w (.pointer (some ⟨b,o+4,none⟩)):=kY (k:=4) Try.underlying89 rfl rfl O9 (by decide) h
theorem Vz (h:ρ x=.pointer (some ⟨b,o,none⟩)):Yl Try.prog ρ (.fieldAddr 89 x 2) d ty pos af g w (.pointer (some ⟨b,o+5,none⟩)):=kY (k:=5) Try.underlying89 rfl rfl mK (by decide) h
theorem Vv (h:ρ x=.pointer (some ⟨b,o,none⟩)):Yl Try.prog ρ (.fieldAddr 89 x 3) d ty pos af g w (.pointer (some ⟨b,o+6,none⟩)):=kY (k:=6) Try.underlying89 rfl rfl mK (by decide) h
theorem Vr (h:ρ x=.pointer (some ⟨b,o,none⟩)):Yl Try.prog ρ (.fieldAddr 89 x 4) d ty pos af g w (.pointer (some ⟨b,o+7,none⟩)):=kY (k:=7) Try.underlying89 rfl rfl mK (by decide) h
theorem Wj (h:ρ x=.pointer (some ⟨b,o,none⟩)):Yl Try.prog ρ (.fieldAddr 89 x 5) d ty pos af g w (.pointer (some ⟨b,o+8,none⟩)):=kY (k:=8) Try.underlying89 rfl rfl mK (by decide) h
theorem IE (h:ρ x=.pointer (some ⟨b,o,none⟩)):Yl Try.prog ρ (.fieldAddr 89 x 6) d ty pos af g w (.pointer (some ⟨b,o+9,none⟩)):=kY (k:=9) Try.underlying89 rfl rfl MC (by decide) h
theorem Jb (h:ρ x=.pointer (some ⟨b,o,none⟩)):Yl Try.prog ρ (.fieldAddr 89 x 7) d ty pos af g w (.pointer (some ⟨b,o+10,none⟩)):=kY (k:=10) Try.underlying89 rfl rfl Ak (by decide) h
theorem WS (h:ρ x=.pointer (some ⟨b,o,none⟩)):Yl Try.prog ρ (.fieldAddr 59 x 3) d ty pos af g w (.pointer (some ⟨b,o+3,none⟩)):=kY (k:=3) Try.underlying59 rfl rfl mK (by decide) h
theorem PV (h:ρ x=.pointer (some ⟨b,o,none⟩)):Yl Try.prog ρ (.fieldAddr 50 x 0) d ty pos af g w (.pointer (some ⟨b,o,none⟩)):=qN Try.underlying50 rfl rfl Rk (by decide) h
theorem JK {t:TypeId} {cs:Array Value} {v:Value} (h:ρ x=.pointer (some ⟨b,o,none⟩)) (hb:mM w b t cs) (hi:cs[o]?=some v):Yl Try.prog ρ (.load 3 x) d ty pos af g w v:=jM Try.underlying3 rfl h (hb.cell hi)
theorem YM {t:TypeId} {cs:Array Value} {v:Value} (h:ρ x=.pointer (some ⟨b,o,none⟩)) (hb:mM w b t cs) (hi:cs[o]?=some v):Yl Try.prog ρ (.load 4 x) d ty pos af g w v:=jM Try.underlying4 rfl h (hb.cell hi)
theorem UH {t:TypeId} {cs:Array Value} {v:Value} (h:ρ x=.pointer (some ⟨b,o,none⟩)) (hb:mM w b t cs) (hi:cs[o]?=some v):Yl Try.prog ρ (.load 22 x) d ty pos af g w v:=jM Try.underlying22 rfl h (hb.cell hi)
theorem Om {t:TypeId} {cs:Array Value} {v:Value} (h:ρ x=.pointer (some ⟨b,o,none⟩)) (hb:mM w b t cs) (hi:cs[o]?=some v):Yl Try.prog ρ (.load 36 x) d ty pos af g w v:=jM Try.underlying36 rfl h (hb.cell hi)
theorem ZG {t:TypeId} {cs:Array Value} {v:Value} (h:ρ x=.pointer (some ⟨b,o,none⟩)) (hb:mM w b t cs) (hi:cs[o]?=some v):Yl Try.prog ρ (.load 48 x) d ty pos af g w v:=jM Try.underlying48 rfl h (hb.cell hi)
theorem DF {t:TypeId} {cs:Array Value} {v:Value} (h:ρ x=.pointer (some ⟨b,o,none⟩)) (hb:mM w b t cs) (hi:cs[o]?=some v):Yl Try.prog ρ (.load 86 x) d ty pos af g w v:=jM Try.underlying86 rfl h (hb.cell hi)
theorem Sn {t:TypeId} {cs:Array Value} {v:Value} (h:ρ x=.pointer (some ⟨b,o,none⟩)) (hb:mM w b t cs) (hi:cs[o]?=some v):Yl Try.prog ρ (.load 87 x) d ty pos af g w v:=jM Try.underlying87 rfl h (hb.cell hi)
theorem M4 {t:TypeId} {cs:Array Value} {v:Value} (h:ρ x=.pointer (some ⟨b,o,none⟩)) (hb:mM w b t cs) (hi:cs[o]?=some v):Yl Try.prog ρ (.load 109 x) d ty pos af g w v:=jM Try.underlying109 rfl h (hb.cell hi)
theorem Na {t:TypeId} {cs:Array Value} {v:Value} (h:ρ x=.pointer (some ⟨b,o,none⟩)) (hb:mM w b t cs) (hi:cs[o]?=some v):Yl Try.prog ρ (.load 118 x) d ty pos af g w v:=jM Try.underlying118 rfl h (hb.cell hi)
end
theorem goB {w0 w:World} {Z G':Nat→Prop} {Lt:List It} {D:List Da} {G R:Prop} (e:Bx w0 w Z G' Lt D) (k:R) (h:Bx w0 w Z G' Lt D→R→G:=by
 intro e k
 repeat (first
  | refine Iz ?_
  | refine zZ ?_
  | refine LX ?_
  | refine FY ?_
  | refine oD ?_
  | refine XD rfl ?_
  | refine XY rfl ?_
  | refine XL rfl ?_
  | refine Xz rfl ?_
  | refine X6 rfl ?_
  | refine aNl rfl ?_
  | refine YR rfl ?_
  | refine Za rfl ?_
  | refine Y0 rfl ?_
  | refine XO rfl ?_
  | refine YV rfl ?_
  | refine Xb rfl rfl ?_
  | refine Yr rfl rfl ?_
  | refine Xv rfl rfl ?_
  | refine Yu rfl rfl ?_
  | refine Yw rfl rfl ?_
  | refine XJ rfl rfl ?_
  | refine YX rfl rfl ?_
  | refine Xh rfl rfl ?_
  | refine XR rfl rfl ?_
  | refine Zh rfl rfl ?_
  | refine YG rfl rfl ?_
  | refine aOr rfl rfl ?_
  | refine Yi rfl rfl ?_
  | refine XZ rfl ?_
  | refine Yd rfl rfl ?_
  | refine Xk rfl rfl ?_
  | refine Xr rfl ?_
  | refine Xo rfl ?_
  | refine Xy rfl ?_
  | refine jK rfl ?_
  | refine jD rfl ?_
  | refine RH rfl ?_
  | refine SN rfl ?_
  | refine SA rfl ?_
  | refine Rv rfl ?_
  | refine SQ rfl ?_
  | refine R9 rfl ?_
  | refine Ri rfl ?_
  | refine Rh rfl ?_
  | refine Rm rfl ?_
  | refine Rq rfl ?_
  | refine S9 rfl ?_
  | refine Sq rfl ?_
  | refine RJ rfl ?_
  | refine Rb rfl ?_
  | refine SB rfl ?_
  | refine Sc rfl ?_
  | refine OZ rfl ?_
  | refine Qd rfl ?_
  | refine O3 rfl ?_
  | refine Sv rfl ?_
  | refine MX rfl ?_
  | refine R6 rfl ?_
  | refine Uj rfl ?_
  | refine Vu rfl ?_
  | refine Vw rfl ?_
  | refine Uv rfl ?_
  | refine Vh rfl ?_
  | refine Vb rfl ?_
  | refine WB rfl ?_
  | refine Uq rfl ?_
  | refine VZ rfl ?_
  | refine Vm rfl ?_
  | refine Us rfl ?_
  | refine U0 rfl ?_
  | refine UA rfl ?_
  | refine UD rfl ?_
  | refine VO rfl ?_
  | refine Uw rfl ?_
  | refine U8 rfl ?_
  | refine UL rfl ?_
  | refine UU rfl ?_
  | refine Vd rfl ?_
  | refine UZ rfl ?_
  | refine Wm rfl ?_
  | refine WR rfl ?_
  | refine UC rfl ?_
  | refine Ux rfl ?_
  | refine Ut rfl ?_
  | refine Vj rfl ?_
  | refine V4 rfl ?_
  | refine Wp rfl ?_
  | refine WM rfl ?_
  | refine U9 rfl ?_
  | refine VX rfl ?_
  | refine aaz rfl ?_
  | refine ZJ rfl ?_
  | refine ZH rfl ?_
  | refine aag rfl ?_
  | refine Z8 rfl ?_
  | refine Z0 rfl ?_
  | refine aas rfl ?_
  | refine ZI rfl ?_
  | refine Zg rfl ?_
  | refine Xf rfl ?_
  | refine XT rfl ?_
  | refine ZF rfl ?_
  | refine V9 rfl (e.bk 0 rfl) rfl ?_
  | refine W9 rfl (e.bk 0 rfl) rfl ?_
  | refine H9 rfl (e.bk 0 rfl) rfl ?_
  | refine NS rfl (e.bk 0 rfl) rfl ?_
  | refine Ig rfl (e.bk 0 rfl) rfl ?_
  | refine Fg rfl (e.bk 0 rfl) rfl ?_
  | refine Ox rfl (e.bk 0 rfl) rfl ?_
  | refine Ow rfl (e.bk 0 rfl) rfl ?_
  | refine MK rfl (e.bk 0 rfl) rfl ?_
  | refine WW rfl (e.bk 0 rfl) rfl ?_
  | refine OO rfl (e.bk 0 rfl) rfl ?_
  | refine OE rfl (e.bk 0 rfl) rfl ?_
  | refine OG rfl (e.bk 0 rfl) rfl ?_
  | refine NW rfl (e.bk 0 rfl) rfl ?_
  | refine N8 rfl (e.bk 0 rfl) rfl ?_
  | refine Oz rfl (e.bk 0 rfl) rfl ?_
  | refine Oh rfl (e.bk 0 rfl) rfl ?_
  | refine V9 rfl (e.bk 1 rfl) rfl ?_
  | refine W9 rfl (e.bk 1 rfl) rfl ?_
  | refine H9 rfl (e.bk 1 rfl) rfl ?_
  | refine NS rfl (e.bk 1 rfl) rfl ?_
  | refine Ig rfl (e.bk 1 rfl) rfl ?_
  | refine Fg rfl (e.bk 1 rfl) rfl ?_
  | refine Ox rfl (e.bk 1 rfl) rfl ?_
  | refine Ow rfl (e.bk 1 rfl) rfl ?_
  | refine MK rfl (e.bk 1 rfl) rfl ?_
  | refine WW rfl (e.bk 1 rfl) rfl ?_
  | refine OO rfl (e.bk 1 rfl) rfl ?_
  | refine OE rfl (e.bk 1 rfl) rfl ?_
  | refine OG rfl (e.bk 1 rfl) rfl ?_
  | refine NW rfl (e.bk 1 rfl) rfl ?_
  | refine N8 rfl (e.bk 1 rfl) rfl ?_
  | refine Oz rfl (e.bk 1 rfl) rfl ?_
  | refine Oh rfl (e.bk 1 rfl) rfl ?_
  | refine V9 rfl (e.bk 2 rfl) rfl ?_
  | refine W9 rfl (e.bk 2 rfl) rfl ?_
  | refine H9 rfl (e.bk 2 rfl) rfl ?_
  | refine NS rfl (e.bk 2 rfl) rfl ?_
  | refine Ig rfl (e.bk 2 rfl) rfl ?_
  | refine Fg rfl (e.bk 2 rfl) rfl ?_
  | refine Ox rfl (e.bk 2 rfl) rfl ?_
  | refine Ow rfl (e.bk 2 rfl) rfl ?_
  | refine MK rfl (e.bk 2 rfl) rfl ?_
  | refine WW rfl (e.bk 2 rfl) rfl ?_
  | refine OO rfl (e.bk 2 rfl) rfl ?_
  | refine OE rfl (e.bk 2 rfl) rfl ?_
  | refine OG rfl (e.bk 2 rfl) rfl ?_
  | refine NW rfl (e.bk 2 rfl) rfl ?_
  | refine N8 rfl (e.bk 2 rfl) rfl ?_
  | refine Oz rfl (e.bk 2 rfl) rfl ?_
  | refine Oh rfl (e.bk 2 rfl) rfl ?_
  | refine V9 rfl (e.bk 3 rfl) rfl ?_
  | refine W9 rfl (e.bk 3 rfl) rfl ?_
  | refine H9 rfl (e.bk 3 rfl) rfl ?_
  | refine NS rfl (e.bk 3 rfl) rfl ?_
  | refine Ig rfl (e.bk 3 rfl) rfl ?_
  | refine Fg rfl (e.bk 3 rfl) rfl ?_
  | refine Ox rfl (e.bk 3 rfl) rfl ?_
  | refine Ow rfl (e.bk 3 rfl) rfl ?_
  | refine MK rfl (e.bk 3 rfl) rfl ?_
  | refine WW rfl (e.bk 3 rfl) rfl ?_
  | refine OO rfl (e.bk 3 rfl) rfl ?_
  | refine OE rfl (e.bk 3 rfl) rfl ?_
  | refine OG rfl (e.bk 3 rfl) rfl ?_
  | refine NW rfl (e.bk 3 rfl) rfl ?_
  | refine N8 rfl (e.bk 3 rfl) rfl ?_
  | refine Oz rfl (e.bk 3 rfl) rfl ?_
  | refine Oh rfl (e.bk 3 rfl) rfl ?_
  | refine V9 rfl (e.bk 4 rfl) rfl ?_
  | refine W9 rfl (e.bk 4 rfl) rfl ?_
  | refine H9 rfl (e.bk 4 rfl) rfl ?_
  | refine NS rfl (e.bk 4 rfl) rfl ?_
  | refine Ig rfl (e.bk 4 rfl) rfl ?_
  | refine Fg rfl (e.bk 4 rfl) rfl ?_
  | refine Ox rfl (e.bk 4 rfl) rfl ?_
  | refine Ow rfl (e.bk 4 rfl) rfl ?_
  | refine MK rfl (e.bk 4 rfl) rfl ?_
  | refine WW rfl (e.bk 4 rfl) rfl ?_
  | refine OO rfl (e.bk 4 rfl) rfl ?_
  | refine OE rfl (e.bk 4 rfl) rfl ?_
  | refine OG rfl (e.bk 4 rfl) rfl ?_
  | refine NW rfl (e.bk 4 rfl) rfl ?_
  | refine N8 rfl (e.bk 4 rfl) rfl ?_
  | refine Oz rfl (e.bk 4 rfl) rfl ?_
  | refine Oh rfl (e.bk 4 rfl) rfl ?_
  | refine V9 rfl (e.bk 5 rfl) rfl ?_
  | refine W9 rfl (e.bk 5 rfl) rfl ?_
  | refine H9 rfl (e.bk 5 rfl) rfl ?_
  | refine NS rfl (e.bk 5 rfl) rfl ?_
  | refine Ig rfl (e.bk 5 rfl) rfl ?_
  | refine Fg rfl (e.bk 5 rfl) rfl ?_
  | refine Ox rfl (e.bk 5 rfl) rfl ?_
  | refine Ow rfl (e.bk 5 rfl) rfl ?_
  | refine MK rfl (e.bk 5 rfl) rfl ?_
  | refine WW rfl (e.bk 5 rfl) rfl ?_
  | refine OO rfl (e.bk 5 rfl) rfl ?_
  | refine OE rfl (e.bk 5 rfl) rfl ?_
  | refine OG rfl (e.bk 5 rfl) rfl ?_
  | refine NW rfl (e.bk 5 rfl) rfl ?_
  | refine N8 rfl (e.bk 5 rfl) rfl ?_
  | refine Oz rfl (e.bk 5 rfl) rfl ?_
  | refine Oh rfl (e.bk 5 rfl) rfl ?_)
 exact k):G:=h e k
end Go.Proofs.Ytfglbdkfnphjgaa
set_option linter.unusedVariables false
namespace Go.Proofs.Ytfglbdkfnphjgaa
open Go.RowKit Go.Fw
structure uE where
 f:Int
 st:Int
 ws:List (List Int)
inductive Pn (α:Type) where
 | ok (a:α)
 | Ey (v:Int)
 | err (e:Int)
 | rt
def Pn.el {α β:Type} (p:Pn α) (f:α→β) (g:∀ {γ:Type},Pn γ):β ⊕ Unit:=match p with | .ok a=>.inl (f a)|_=>.inr ()
def Pn.up {α β:Type}:Pn α→Pn β
 | .ok _=>.rt
 | .Ey v=>.Ey v
 | .err e=>.err e
 | .rt=>.rt
def Pn.then {α β:Type}:Pn α→(α→Option (Pn β))→Option (Pn β)
 | .ok a,f=>f a
 | .Ey v,_=>some (.Ey v)
 | .err e,_=>some (.err e)
 | .rt,_=>some .rt
def ix? {α:Type} (l:List α) (i:Int):Option α:=if i < 0 then none else l[i.toNat]?
def Ry (op x y:Int):Pn Int:=
 if op=6 then .ok (wr (x+y)) else if op=7 then .ok (wr (x - y)) else if op=8 then .ok (wr (x * y))
 else if op=9 then (if y=0 then .Ey 1 else .ok (wr (x.tdiv y))) else if op=10 then (if y=0 then .Ey 1 else .ok (x.tmod y))
 else if op=11 then .ok (Ew (· &&& ·) x y) else if op=12 then .ok (Ew (· ||| ·) x y) else if op=13 then .ok (Ew (· ^^^ ·) x y)
 else if op=14 then .ok (BI (decide (x < y))) else if op=15 then .ok (BI (decide (x≤y))) else if op=16 then .ok (BI (decide (x=y))) else if op=17 then .ok (BI (decide (x≠y)))
 else .err 4
def Rf (ev:jA→Option (Pn Int)) (ws:List (List Int)) (e:jA):Option (Pn (Nat × Nat)):=
 match ix? ws e.g with
 | none=>some .rt
 | some l=>
  if e.e=2 then some (if 0≤e.c∧e.c < l.length then .ok (e.g.toNat,e.c.toNat) else .rt)
  else if e.e=3 then
   match e.a with
   | []=>some .rt
   | x :: _=>(ev x).bind fun p=>p.then fun i=>some (if i < 0 ∨ (l.length:Int)≤i then .Ey 2 else .ok (e.g.toNat,i.toNat))
  else some (if l=[] then .rt else .ok (e.g.toNat,0))
def UG (ws:List (List Int)) (p:Nat × Nat):Int:=(ws.getD p.1 []).getD p.2 0
def setW (ws:List (List Int)) (p:Nat × Nat) (v:Int):List (List Int):=ws.set p.1 ((ws.getD p.1 []).set p.2 v)
def CF:Nat→List (List Int)→jA→Option (Pn Int)
 | 0,_,_=>none
 | fu+1,ws,e=>
  if e.e=0 then some (.ok e.c)
  else if e.e=1 ∨ e.e=2 ∨ e.e=3 then (Rf (CF fu ws) ws e).bind fun p=>p.then fun q=>some (.ok (UG ws q))
  else if e.e=4 then match e.a with
   | []=>some .rt
   | x :: _=>(CF fu ws x).bind fun p=>p.then fun n=>some (.ok (wr (0 - n)))
  else if e.e=5 then match e.a with
   | []=>some .rt
   | x :: _=>(CF fu ws x).bind fun p=>p.then fun n=>some (.ok (BI (decide (n=0))))
  else match e.a with
   | []=>some .rt
   | x :: l=>(CF fu ws x).bind fun p=>p.then fun n=>match l with
    | []=>some .rt
    | y :: _=>(CF fu ws y).bind fun p=>p.then fun m=>some (Ry e.e n m)
def IX (ev:jA→Option (Pn Int)):List jA→List Int→Option (Pn (List Int))
 | [],acc=>some (.ok acc)
 | x :: l,acc=>(ev x).bind fun p=>p.then fun n=>(app acc [n]).bind fun acc=>IX ev l acc
structure Sg where
 a:uE
 hist:List kI
 out:List Int
def QZ (ws:List (List Int)):List Int→List rT→Option (List rT)
 | [],acc=>some acc
 | v :: l,acc=>(ix? ws v).bind fun r=>(app acc [(⟨v,List.replicate r.length true,r⟩:rT)]).bind fun acc=>QZ ws l acc
def XU (vis:Int→Int→Option (List Int)) (g:uE):Option nI:=
 (vis g.f g.st).bind fun l=>(QZ g.ws l []).bind fun vs=>some ⟨g.f,g.st,vs⟩
def Ug (vis:Int→Int→Option (List Int)):List uE→List nI→Option (List nI)
 | [],acc=>some acc
 | g :: l,acc=>(XU vis g).bind fun f=>(app acc [f]).bind fun acc=>Ug vis l acc
def event (vis:Int→Int→Option (List Int)) (steps:Nat) (rest:List uE) (s:Sg) (id:Int):Option (Pn Unit × Sg):=
 if steps≤s.hist.length then some (.err 13,s)
 else (Ug vis ((⟨s.a.f,id,s.a.ws⟩:uE) :: rest) []).bind fun fs=>some (.ok (),⟨⟨s.a.f,id,s.a.ws⟩,s.hist ++ [⟨fs⟩],s.out⟩)
abbrev Sm:=Sg→jN→Option (Pn (Option Int) × Sg)
def JJ (sm:Sm):Sg→List jN→Option (Pn (Option Int) × Sg)
 | s,[]=>some (.ok none,s)
 | s,x :: l=>(sm s x).bind fun (p,s)=>match p with
  | .ok none=>JJ sm s l
  | p=>some (p,s)
def FJ:List jU→List (List Int)→Option (Pn (List (List Int)))
 | [],acc=>some (.ok acc)
 | v :: l,acc=>if v.a < 0 ∨ 8 < v.a then some (.err 4) else (app acc [List.replicate v.a.toNat 0]).bind fun acc=>FJ l acc
def IY:List Int→Nat→List (List Int)→Pn (List (List Int))
 | [],_,ws=>.ok ws
 | v :: l,i,ws=>match ws[i]? with
  | none=>.rt
  | some []=>.rt
  | some (_ :: r)=>IY l (i+1) (ws.set i (v :: r))
def Ef (sm:List uE→Sm) (src:jQ) (stk:List uE) (f:Int) (args:List Int) (hist:List kI) (out:List Int):Option (Pn Int × List kI × List Int):=
 if 20≤stk.length then some (.err 5,hist,out)
 else match ix? src.b f with
  | none=>some (.rt,hist,out)
  | some vars=>(FJ vars []).bind fun p=>match p with
   | .ok ws=>match IY args 0 ws with
    | .ok ws=>match ix? src.a.b f with
     | none=>some (.rt,hist,out)
     | some fn=>(JJ (sm stk) ⟨⟨f,0,ws⟩,hist,out⟩ fn.d).bind fun (p,s)=>some (match p with | .ok r=>.ok (r.getD 0)|p=>p.up,s.hist,s.out)
    | p=>some (p.up,hist,out)
   | p=>some (p.up,hist,out)
def one (ev:jA→Option (Pn Int)) (l:List jA) (s:Sg) {β:Type} (k:Int→Option (Pn β × Sg)):Option (Pn β × Sg):=match l with
 | []=>some (.rt,s)
 | x :: _=>(ev x).bind fun p=>match p with
  | .ok n=>k n
  | p=>some (p.up,s)
def WX (cond:Sg→Option (Pn Int)) (body:Sg→Option (Pn (Option Int) × Sg)) (ev:Sg→Option (Pn Unit × Sg)):Nat→Sg→Option (Pn (Option Int) × Sg)
 | 0,_=>none
 | n+1,s=>(cond s).bind fun p=>match p with
  | .ok v=>if v=0 then some (.ok none,s) else (body s).bind fun (p,s)=>match p with
   | .ok none=>(ev s).bind fun (p,s)=>match p with
    | .ok _=>WX cond body ev n s
    | p=>some (p.up,s)
   | p=>some (p,s)
  | p=>some (p.up,s)
def NT (ev:jA→Option (Pn Int)) (ws:List (List Int)) (l:List jA) (s:Sg) {β:Type} (k:Nat × Nat→Option (Pn β × Sg)):Option (Pn β × Sg):=match l with
 | []=>some (.rt,s)
 | x :: _=>(Rf ev ws x).bind fun p=>match p with
  | .ok n=>k n
  | p=>some (p.up,s)
def Zu (ev:jA→Option (Pn Int)):List jA→Option (Pn Int)
 | []=>some .rt
 | e :: _=>ev e
def wdA (ev:jA→Option (Pn Int)) (ws:List (List Int)):List jA→Option (Pn (Nat × Nat))
 | []=>some .rt
 | e :: _=>Rf ev ws e
def F7 (sm:List uE→Sm) (src:jQ) (rest:List uE) (fu:Nat) (s:Sg) (x:jN) (k:Int→Sg→Option (Pn (Option Int) × Sg)):Option (Pn (Option Int) × Sg):=
 (IX (CF fu s.a.ws) x.a []).bind fun p=>match p with
  | .ok l=>(Ef sm src (s.a :: rest) x.i l s.hist s.out).bind fun (p,h,o)=>match p with
   | .ok v=>k v { s with hist:=h,out:=o }
   | p=>some (p.up,{ s with hist:=h,out:=o })
  | p=>some (p.up,s)
def stM (vis:Int→Int→Option (List Int)) (src:jQ) (steps:Nat):Nat→List uE→Sm
 | 0,_,_,_=>none
 | fu+1,rest,s,x=>(event vis steps rest s x.n).bind fun (p,s)=>match p with
  | .ok _=>
   if x.e=1 then match ix? s.a.ws x.g with
    | none=>some (.rt,s)
    | some l=>some (.ok none,{ s with a:={ s.a with ws:=s.a.ws.set x.g.toNat (List.replicate l.length 0) } })
   else if x.e=2 then NT (CF fu s.a.ws) s.a.ws x.c s fun q=>one (CF fu s.a.ws) x.a s fun v=>some (.ok none,{ s with a:={ s.a with ws:=setW s.a.ws q v } })
   else if x.e=3 then F7 (stM vis src steps fu) src rest fu s x fun v s=>if x.c.length=0 then some (.ok none,s) else NT (CF fu s.a.ws) s.a.ws x.c s fun q=>some (.ok none,{ s with a:={ s.a with ws:=setW s.a.ws q v } })
   else if x.e=4 then one (CF fu s.a.ws) x.a s fun v=>JJ (stM vis src steps fu rest) s (if v≠0 then x.d else x.h)
   else if x.e=5 then WX (fun s=>Zu (CF fu s.a.ws) x.a) (fun s=>JJ (stM vis src steps fu rest) s x.d) (fun s=>event vis steps rest s x.n) fu s
   else if x.e=6 then
    if x.k≠be then F7 (stM vis src steps fu) src rest fu s x fun v s=>some (.ok (some v),s)
    else one (CF fu s.a.ws) x.a s fun v=>some (.ok (some v),s)
   else if x.e=7 then one (CF fu s.a.ws) x.a s fun v=>some (.Ey v,s)
   else if x.e=8 then (JJ (stM vis src steps fu rest) s x.d).bind fun (p,s)=>match p with
    | .Ey v=>match ix? s.a.ws x.g with
     | none=>some (.rt,s)
     | some []=>some (.rt,s)
     | some (_ :: r)=>JJ (stM vis src steps fu rest) { s with a:={ s.a with ws:=s.a.ws.set x.g.toNat (v :: r) } } x.h
    | p=>some (p,s)
   else if x.e=9 then one (CF fu s.a.ws) x.a s fun v=>(app s.out [v]).bind fun o=>some (.ok none,{ s with out:=o })
   else if x.e=10 then some (.ok (some 0),s)
   else some (.ok none,s)
  | p=>some (p.up,s)
def window (hist:List kI) (from_ most:Nat):List kI:=(hist.drop from_).take most
def traceM (fu:Nat) (vis:Int→Int→Option (List Int)) (src:jQ) (f:Int) (args:List Int) (steps from_ most:Int):Option (List kI × nL):=
 match ix? src.a.b f with
 | none=>some ([],⟨1,false,0,[]⟩)
 | some fn=>
  if args.length≠fn.a.length ∨ steps < 0 ∨ 5000 < steps ∨ from_ < 0 ∨ most < 0 ∨ 100 < most then some ([],⟨1,false,0,[]⟩)
  else (Ef (stM vis src steps.toNat fu) src [] f args [] []).bind fun (p,h,o)=>some (window h from_.toNat most.toNat,match p with
   | .ok v=>⟨0,false,v,o⟩
   | .Ey v=>⟨0,true,v,o⟩
   | .err e=>⟨e,false,0,o⟩
   | .rt=>⟨4,false,0,o⟩)
end Go.Proofs.Ytfglbdkfnphjgaa
