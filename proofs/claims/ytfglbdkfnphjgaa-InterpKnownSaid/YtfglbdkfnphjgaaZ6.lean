/- Fields, loads and lengths among the steps that need no choice. -/
import Derived.Test.YtfglbdkfnphjgaaZ5
set_option linter.unusedVariables false
namespace Go.Proofs.Ytfglbdkfnphjgaa
open Go.RowKit Go.Fw
theorem Mw:TI Try.prog 36 sn 1 24:=oF (by kernel_rfl)
theorem OI:TI Try.prog 87 sn 1 24:=oF (by kernel_rfl)
theorem PW:TI Try.prog 118 sn 1 24:=oF (by kernel_rfl)
theorem Yi:TI Try.prog 86 (.pointer none) 1 8:=oF (by kernel_rfl)
theorem Nr:TI Try.prog 117 (.pointer none) 1 8:=oF (by kernel_rfl)
theorem Wh:TI Try.prog 90 (V 0) 1 8:=oF (by kernel_rfl)
theorem aaf:TI Try.prog 91 (V 0) 1 8:=oF (by kernel_rfl)
section
variable {N:Fz} {ops:Array Oper} {K:KK} {rest:List Oper} {f:Fr} {w w0:World} {d:Option Nat} {ty:TypeId} {pos:String} {af:Array Edge} {x:Operand} {b o:Nat} {Z G:Nat→Prop} {Lt:List It} {D:List Da}
theorem Sq (h:ev f x=.pointer (some ⟨b,o,none⟩)) (k:kM Try.prog N ops K rest (kF f d (.pointer (some ⟨b,o,none⟩))) w):kM Try.prog N ops K (⟨d,.fieldAddr 138 x 0,ty,pos,af,none⟩ :: rest) f w:=jS (qU Try.underlying138 rfl rfl mP (by decide) h) k
theorem QV (h:ev f x=.pointer (some ⟨b,o,none⟩)) (k:kM Try.prog N ops K rest (kF f d (.pointer (some ⟨b,o+1,none⟩))) w):kM Try.prog N ops K (⟨d,.fieldAddr 138 x 1,ty,pos,af,none⟩ :: rest) f w:=jS (kX (k:=1) Try.underlying138 rfl rfl mP (by decide) h) k
theorem Rz (h:ev f x=.pointer (some ⟨b,o,none⟩)) (k:kM Try.prog N ops K rest (kF f d (.pointer (some ⟨b,o+2,none⟩))) w):kM Try.prog N ops K (⟨d,.fieldAddr 138 x 2,ty,pos,af,none⟩ :: rest) f w:=jS (kX (k:=2) Try.underlying138 rfl rfl mP (by decide) h) k
theorem QS (h:ev f x=.pointer (some ⟨b,o,none⟩)) (k:kM Try.prog N ops K rest (kF f d (.pointer (some ⟨b,o+3,none⟩))) w):kM Try.prog N ops K (⟨d,.fieldAddr 138 x 3,ty,pos,af,none⟩ :: rest) f w:=jS (kX (k:=3) Try.underlying138 rfl rfl nX (by decide) h) k
theorem Rv (h:ev f x=.pointer (some ⟨b,o,none⟩)) (k:kM Try.prog N ops K rest (kF f d (.pointer (some ⟨b,o+4,none⟩))) w):kM Try.prog N ops K (⟨d,.fieldAddr 138 x 4,ty,pos,af,none⟩ :: rest) f w:=jS (kX (k:=4) Try.underlying138 rfl rfl nX (by decide) h) k
theorem RG (h:ev f x=.pointer (some ⟨b,o,none⟩)) (k:kM Try.prog N ops K rest (kF f d (.pointer (some ⟨b,o+5,none⟩))) w):kM Try.prog N ops K (⟨d,.fieldAddr 138 x 5,ty,pos,af,none⟩ :: rest) f w:=jS (kX (k:=5) Try.underlying138 rfl rfl su (by decide) h) k
theorem Rc (h:ev f x=.pointer (some ⟨b,o,none⟩)) (k:kM Try.prog N ops K rest (kF f d (.pointer (some ⟨b,o,none⟩))) w):kM Try.prog N ops K (⟨d,.fieldAddr 111 x 0,ty,pos,af,none⟩ :: rest) f w:=jS (qU Try.underlying111 rfl rfl mP (by decide) h) k
theorem QT (h:ev f x=.pointer (some ⟨b,o,none⟩)) (k:kM Try.prog N ops K rest (kF f d (.pointer (some ⟨b,o+1,none⟩))) w):kM Try.prog N ops K (⟨d,.fieldAddr 111 x 1,ty,pos,af,none⟩ :: rest) f w:=jS (kX (k:=1) Try.underlying111 rfl rfl mP (by decide) h) k
theorem SH (h:ev f x=.pointer (some ⟨b,o,none⟩)) (k:kM Try.prog N ops K rest (kF f d (.pointer (some ⟨b,o+2,none⟩))) w):kM Try.prog N ops K (⟨d,.fieldAddr 111 x 2,ty,pos,af,none⟩ :: rest) f w:=jS (kX (k:=2) Try.underlying111 rfl rfl mP (by decide) h) k
theorem RL (h:ev f x=.pointer (some ⟨b,o,none⟩)) (k:kM Try.prog N ops K rest (kF f d (.pointer (some ⟨b,o+3,none⟩))) w):kM Try.prog N ops K (⟨d,.fieldAddr 111 x 3,ty,pos,af,none⟩ :: rest) f w:=jS (kX (k:=3) Try.underlying111 rfl rfl nX (by decide) h) k
theorem SB (h:ev f x=.pointer (some ⟨b,o,none⟩)) (k:kM Try.prog N ops K rest (kF f d (.pointer (some ⟨b,o+4,none⟩))) w):kM Try.prog N ops K (⟨d,.fieldAddr 111 x 4,ty,pos,af,none⟩ :: rest) f w:=jS (kX (k:=4) Try.underlying111 rfl rfl nX (by decide) h) k
theorem QW (h:ev f x=.pointer (some ⟨b,o,none⟩)) (k:kM Try.prog N ops K rest (kF f d (.pointer (some ⟨b,o+5,none⟩))) w):kM Try.prog N ops K (⟨d,.fieldAddr 111 x 5,ty,pos,af,none⟩ :: rest) f w:=jS (kX (k:=5) Try.underlying111 rfl rfl mP (by decide) h) k
theorem Sv (h:ev f x=.pointer (some ⟨b,o,none⟩)) (k:kM Try.prog N ops K rest (kF f d (.pointer (some ⟨b,o+6,none⟩))) w):kM Try.prog N ops K (⟨d,.fieldAddr 111 x 6,ty,pos,af,none⟩ :: rest) f w:=jS (kX (k:=6) Try.underlying111 rfl rfl mP (by decide) h) k
theorem Sn (h:ev f x=.pointer (some ⟨b,o,none⟩)) (k:kM Try.prog N ops K rest (kF f d (.pointer (some ⟨b,o+7,none⟩))) w):kM Try.prog N ops K (⟨d,.fieldAddr 111 x 7,ty,pos,af,none⟩ :: rest) f w:=jS (kX (k:=7) Try.underlying111 rfl rfl su (by decide) h) k
theorem Sk (h:ev f x=.pointer (some ⟨b,o,none⟩)) (k:kM Try.prog N ops K rest (kF f d (.pointer (some ⟨b,o+8,none⟩))) w):kM Try.prog N ops K (⟨d,.fieldAddr 111 x 8,ty,pos,af,none⟩ :: rest) f w:=jS (kX (k:=8) Try.underlying111 rfl rfl nX (by decide) h) k
theorem R4 (h:ev f x=.pointer (some ⟨b,o,none⟩)) (k:kM Try.prog N ops K rest (kF f d (.pointer (some ⟨b,o+9,none⟩))) w):kM Try.prog N ops K (⟨d,.fieldAddr 111 x 9,ty,pos,af,none⟩ :: rest) f w:=jS (kX (k:=9) Try.underlying111 rfl rfl mP (by decide) h) k
theorem Pw (h:ev f x=.pointer (some ⟨b,o,none⟩)) (k:kM Try.prog N ops K rest (kF f d (.pointer (some ⟨b,o+10,none⟩))) w):kM Try.prog N ops K (⟨d,.fieldAddr 111 x 10,ty,pos,af,none⟩ :: rest) f w:=jS (kX (k:=10) Try.underlying111 rfl rfl su (by decide) h) k
theorem PK (h:ev f x=.pointer (some ⟨b,o,none⟩)) (k:kM Try.prog N ops K rest (kF f d (.pointer (some ⟨b,o+11,none⟩))) w):kM Try.prog N ops K (⟨d,.fieldAddr 111 x 11,ty,pos,af,none⟩ :: rest) f w:=jS (kX (k:=11) Try.underlying111 rfl rfl za (by decide) h) k
theorem OD (h:ev f x=.pointer (some ⟨b,o,none⟩)) (k:kM Try.prog N ops K rest (kF f d (.pointer (some ⟨b,o+12,none⟩))) w):kM Try.prog N ops K (⟨d,.fieldAddr 111 x 12,ty,pos,af,none⟩ :: rest) f w:=jS (kX (k:=12) Try.underlying111 rfl rfl za (by decide) h) k
theorem RV (h:ev f x=.pointer (some ⟨b,o,none⟩)) (k:kM Try.prog N ops K rest (kF f d (.pointer (some ⟨b,o,none⟩))) w):kM Try.prog N ops K (⟨d,.fieldAddr 120 x 0,ty,pos,af,none⟩ :: rest) f w:=jS (qU Try.underlying120 rfl rfl mP (by decide) h) k
theorem Nj (h:ev f x=.pointer (some ⟨b,o,none⟩)) (k:kM Try.prog N ops K rest (kF f d (.pointer (some ⟨b,o+1,none⟩))) w):kM Try.prog N ops K (⟨d,.fieldAddr 120 x 1,ty,pos,af,none⟩ :: rest) f w:=jS (kX (k:=1) Try.underlying120 rfl rfl mP (by decide) h) k
theorem R9 (h:ev f x=.pointer (some ⟨b,o,none⟩)) (k:kM Try.prog N ops K rest (kF f d (.pointer (some ⟨b,o+2,none⟩))) w):kM Try.prog N ops K (⟨d,.fieldAddr 120 x 2,ty,pos,af,none⟩ :: rest) f w:=jS (kX (k:=2) Try.underlying120 rfl rfl PW (by decide) h) k
theorem VI (h:ev f x=.pointer (some ⟨b,o,none⟩)) (k:kM Try.prog N ops K rest (kF f d (.pointer (some ⟨b,o,none⟩))) w):kM Try.prog N ops K (⟨d,.fieldAddr 89 x 0,ty,pos,af,none⟩ :: rest) f w:=jS (qU Try.underlying89 rfl rfl vR (by decide) h) k
theorem Wo (h:ev f x=.pointer (some ⟨b,o,none⟩)) (k:kM Try.prog N ops K rest (kF f d (.pointer (some ⟨b,o+4,none⟩))) w):kM Try.prog N ops K (⟨d,.fieldAddr 89 x 1,ty,pos,af,none⟩ :: rest) f w:=jS (kX (k:=4) Try.underlying89 rfl rfl OI (by decide) h) k
theorem UM (h:ev f x=.pointer (some ⟨b,o,none⟩)) (k:kM Try.prog N ops K rest (kF f d (.pointer (some ⟨b,o+5,none⟩))) w):kM Try.prog N ops K (⟨d,.fieldAddr 89 x 2,ty,pos,af,none⟩ :: rest) f w:=jS (kX (k:=5) Try.underlying89 rfl rfl mP (by decide) h) k
theorem UU (h:ev f x=.pointer (some ⟨b,o,none⟩)) (k:kM Try.prog N ops K rest (kF f d (.pointer (some ⟨b,o+6,none⟩))) w):kM Try.prog N ops K (⟨d,.fieldAddr 89 x 3,ty,pos,af,none⟩ :: rest) f w:=jS (kX (k:=6) Try.underlying89 rfl rfl mP (by decide) h) k
theorem U1 (h:ev f x=.pointer (some ⟨b,o,none⟩)) (k:kM Try.prog N ops K rest (kF f d (.pointer (some ⟨b,o+7,none⟩))) w):kM Try.prog N ops K (⟨d,.fieldAddr 89 x 4,ty,pos,af,none⟩ :: rest) f w:=jS (kX (k:=7) Try.underlying89 rfl rfl mP (by decide) h) k
theorem Wy (h:ev f x=.pointer (some ⟨b,o,none⟩)) (k:kM Try.prog N ops K rest (kF f d (.pointer (some ⟨b,o+8,none⟩))) w):kM Try.prog N ops K (⟨d,.fieldAddr 89 x 5,ty,pos,af,none⟩ :: rest) f w:=jS (kX (k:=8) Try.underlying89 rfl rfl mP (by decide) h) k
theorem WE (h:ev f x=.pointer (some ⟨b,o,none⟩)) (k:kM Try.prog N ops K rest (kF f d (.pointer (some ⟨b,o+9,none⟩))) w):kM Try.prog N ops K (⟨d,.fieldAddr 89 x 6,ty,pos,af,none⟩ :: rest) f w:=jS (kX (k:=9) Try.underlying89 rfl rfl Mw (by decide) h) k
theorem U6 (h:ev f x=.pointer (some ⟨b,o,none⟩)) (k:kM Try.prog N ops K rest (kF f d (.pointer (some ⟨b,o+10,none⟩))) w):kM Try.prog N ops K (⟨d,.fieldAddr 89 x 7,ty,pos,af,none⟩ :: rest) f w:=jS (kX (k:=10) Try.underlying89 rfl rfl Aj (by decide) h) k
theorem Vo (h:ev f x=.pointer (some ⟨b,o,none⟩)) (k:kM Try.prog N ops K rest (kF f d (.pointer (some ⟨b,o,none⟩))) w):kM Try.prog N ops K (⟨d,.fieldAddr 30 x 0,ty,pos,af,none⟩ :: rest) f w:=jS (qU Try.underlying30 rfl rfl sS (by decide) h) k
theorem UJ (h:ev f x=.pointer (some ⟨b,o,none⟩)) (k:kM Try.prog N ops K rest (kF f d (.pointer (some ⟨b,o+2,none⟩))) w):kM Try.prog N ops K (⟨d,.fieldAddr 30 x 1,ty,pos,af,none⟩ :: rest) f w:=jS (kX (k:=2) Try.underlying30 rfl rfl Wl (by decide) h) k
theorem VD (h:ev f x=.pointer (some ⟨b,o,none⟩)) (k:kM Try.prog N ops K rest (kF f d (.pointer (some ⟨b,o+3,none⟩))) w):kM Try.prog N ops K (⟨d,.fieldAddr 30 x 2,ty,pos,af,none⟩ :: rest) f w:=jS (kX (k:=3) Try.underlying30 rfl rfl VA (by decide) h) k
theorem Vw (h:ev f x=.pointer (some ⟨b,o,none⟩)) (k:kM Try.prog N ops K rest (kF f d (.pointer (some ⟨b,o,none⟩))) w):kM Try.prog N ops K (⟨d,.fieldAddr 26 x 0,ty,pos,af,none⟩ :: rest) f w:=jS (qU Try.underlying26 rfl rfl Vk (by decide) h) k
theorem Vs (h:ev f x=.pointer (some ⟨b,o,none⟩)) (k:kM Try.prog N ops K rest (kF f d (.pointer (some ⟨b,o+1,none⟩))) w):kM Try.prog N ops K (⟨d,.fieldAddr 26 x 1,ty,pos,af,none⟩ :: rest) f w:=jS (kX (k:=1) Try.underlying26 rfl rfl RI (by decide) h) k
theorem Ws (h:ev f x=.pointer (some ⟨b,o,none⟩)) (k:kM Try.prog N ops K rest (kF f d (.pointer (some ⟨b,o,none⟩))) w):kM Try.prog N ops K (⟨d,.fieldAddr 82 x 0,ty,pos,af,none⟩ :: rest) f w:=jS (qU Try.underlying82 rfl rfl nX (by decide) h) k
theorem Vr (h:ev f x=.pointer (some ⟨b,o,none⟩)) (k:kM Try.prog N ops K rest (kF f d (.pointer (some ⟨b,o+1,none⟩))) w):kM Try.prog N ops K (⟨d,.fieldAddr 82 x 1,ty,pos,af,none⟩ :: rest) f w:=jS (kX (k:=1) Try.underlying82 rfl rfl mP (by decide) h) k
theorem UA (h:ev f x=.pointer (some ⟨b,o,none⟩)) (k:kM Try.prog N ops K rest (kF f d (.pointer (some ⟨b,o+2,none⟩))) w):kM Try.prog N ops K (⟨d,.fieldAddr 82 x 2,ty,pos,af,none⟩ :: rest) f w:=jS (kX (k:=2) Try.underlying82 rfl rfl nV (by decide) h) k
theorem VR (h:ev f x=.pointer (some ⟨b,o,none⟩)) (k:kM Try.prog N ops K rest (kF f d (.pointer (some ⟨b,o+3,none⟩))) w):kM Try.prog N ops K (⟨d,.fieldAddr 82 x 3,ty,pos,af,none⟩ :: rest) f w:=jS (kX (k:=3) Try.underlying82 rfl rfl za (by decide) h) k
theorem Wx (h:ev f x=.pointer (some ⟨b,o,none⟩)) (k:kM Try.prog N ops K rest (kF f d (.pointer (some ⟨b,o,none⟩))) w):kM Try.prog N ops K (⟨d,.fieldAddr 59 x 0,ty,pos,af,none⟩ :: rest) f w:=jS (qU Try.underlying59 rfl rfl nX (by decide) h) k
theorem Vj (h:ev f x=.pointer (some ⟨b,o,none⟩)) (k:kM Try.prog N ops K rest (kF f d (.pointer (some ⟨b,o+1,none⟩))) w):kM Try.prog N ops K (⟨d,.fieldAddr 59 x 1,ty,pos,af,none⟩ :: rest) f w:=jS (kX (k:=1) Try.underlying59 rfl rfl mP (by decide) h) k
theorem Vd (h:ev f x=.pointer (some ⟨b,o,none⟩)) (k:kM Try.prog N ops K rest (kF f d (.pointer (some ⟨b,o+2,none⟩))) w):kM Try.prog N ops K (⟨d,.fieldAddr 59 x 2,ty,pos,af,none⟩ :: rest) f w:=jS (kX (k:=2) Try.underlying59 rfl rfl mP (by decide) h) k
theorem VX (h:ev f x=.pointer (some ⟨b,o,none⟩)) (k:kM Try.prog N ops K rest (kF f d (.pointer (some ⟨b,o+3,none⟩))) w):kM Try.prog N ops K (⟨d,.fieldAddr 59 x 3,ty,pos,af,none⟩ :: rest) f w:=jS (kX (k:=3) Try.underlying59 rfl rfl mP (by decide) h) k
theorem Wu (h:ev f x=.pointer (some ⟨b,o,none⟩)) (k:kM Try.prog N ops K rest (kF f d (.pointer (some ⟨b,o+4,none⟩))) w):kM Try.prog N ops K (⟨d,.fieldAddr 59 x 4,ty,pos,af,none⟩ :: rest) f w:=jS (kX (k:=4) Try.underlying59 rfl rfl LA (by decide) h) k
theorem Wp (h:ev f x=.pointer (some ⟨b,o,none⟩)) (k:kM Try.prog N ops K rest (kF f d (.pointer (some ⟨b,o+5,none⟩))) w):kM Try.prog N ops K (⟨d,.fieldAddr 59 x 5,ty,pos,af,none⟩ :: rest) f w:=jS (kX (k:=5) Try.underlying59 rfl rfl mP (by decide) h) k
theorem UL (h:ev f x=.pointer (some ⟨b,o,none⟩)) (k:kM Try.prog N ops K rest (kF f d (.pointer (some ⟨b,o+6,none⟩))) w):kM Try.prog N ops K (⟨d,.fieldAddr 59 x 6,ty,pos,af,none⟩ :: rest) f w:=jS (kX (k:=6) Try.underlying59 rfl rfl mP (by decide) h) k
theorem WC (h:ev f x=.pointer (some ⟨b,o,none⟩)) (k:kM Try.prog N ops K rest (kF f d (.pointer (some ⟨b,o,none⟩))) w):kM Try.prog N ops K (⟨d,.fieldAddr 53 x 0,ty,pos,af,none⟩ :: rest) f w:=jS (qU Try.underlying53 rfl rfl mP (by decide) h) k
theorem VL (h:ev f x=.pointer (some ⟨b,o,none⟩)) (k:kM Try.prog N ops K rest (kF f d (.pointer (some ⟨b,o+1,none⟩))) w):kM Try.prog N ops K (⟨d,.fieldAddr 53 x 1,ty,pos,af,none⟩ :: rest) f w:=jS (kX (k:=1) Try.underlying53 rfl rfl mP (by decide) h) k
theorem Vu (h:ev f x=.pointer (some ⟨b,o,none⟩)) (k:kM Try.prog N ops K rest (kF f d (.pointer (some ⟨b,o+2,none⟩))) w):kM Try.prog N ops K (⟨d,.fieldAddr 53 x 2,ty,pos,af,none⟩ :: rest) f w:=jS (kX (k:=2) Try.underlying53 rfl rfl VQ (by decide) h) k
theorem Vv (h:ev f x=.pointer (some ⟨b,o,none⟩)) (k:kM Try.prog N ops K rest (kF f d (.pointer (some ⟨b,o,none⟩))) w):kM Try.prog N ops K (⟨d,.fieldAddr 50 x 0,ty,pos,af,none⟩ :: rest) f w:=jS (qU Try.underlying50 rfl rfl R3 (by decide) h) k
theorem Uk (h:ev f x=.pointer (some ⟨b,o,none⟩)) (k:kM Try.prog N ops K rest (kF f d (.pointer (some ⟨b,o,none⟩))) w):kM Try.prog N ops K (⟨d,.fieldAddr 39 x 0,ty,pos,af,none⟩ :: rest) f w:=jS (qU Try.underlying39 rfl rfl Ll (by decide) h) k
theorem Vq (h:ev f x=.pointer (some ⟨b,o,none⟩)) (k:kM Try.prog N ops K rest (kF f d (.pointer (some ⟨b,o+1,none⟩))) w):kM Try.prog N ops K (⟨d,.fieldAddr 39 x 1,ty,pos,af,none⟩ :: rest) f w:=jS (kX (k:=1) Try.underlying39 rfl rfl LA (by decide) h) k
theorem Uo (h:ev f x=.pointer (some ⟨b,o,none⟩)) (k:kM Try.prog N ops K rest (kF f d (.pointer (some ⟨b,o+2,none⟩))) w):kM Try.prog N ops K (⟨d,.fieldAddr 39 x 2,ty,pos,af,none⟩ :: rest) f w:=jS (kX (k:=2) Try.underlying39 rfl rfl mP (by decide) h) k
theorem Uq (h:ev f x=.pointer (some ⟨b,o,none⟩)) (k:kM Try.prog N ops K rest (kF f d (.pointer (some ⟨b,o+3,none⟩))) w):kM Try.prog N ops K (⟨d,.fieldAddr 39 x 3,ty,pos,af,none⟩ :: rest) f w:=jS (kX (k:=3) Try.underlying39 rfl rfl Aj (by decide) h) k
theorem Ue {t:TypeId} {cs:Array Value} {v:Value} (h:ev f x=.pointer (some ⟨b,o,none⟩)) (hb:mI w b t cs) (hi:cs[o]?=some v) (k:kM Try.prog N ops K rest (kF f d v) w):kM Try.prog N ops K (⟨d,.load 3 x,ty,pos,af,none⟩ :: rest) f w:=jS (jP Try.underlying3 rfl h (hb.cell hi)) k
theorem WV {t:TypeId} {cs:Array Value} {v:Value} (h:ev f x=.pointer (some ⟨b,o,none⟩)) (hb:mI w b t cs) (hi:cs[o]?=some v) (k:kM Try.prog N ops K rest (kF f d v) w):kM Try.prog N ops K (⟨d,.load 4 x,ty,pos,af,none⟩ :: rest) f w:=jS (jP Try.underlying4 rfl h (hb.cell hi)) k
theorem WO {t:TypeId} {cs:Array Value} {v:Value} (h:ev f x=.pointer (some ⟨b,o,none⟩)) (hb:mI w b t cs) (hi:cs[o]?=some v) (k:kM Try.prog N ops K rest (kF f d v) w):kM Try.prog N ops K (⟨d,.load 9 x,ty,pos,af,none⟩ :: rest) f w:=jS (jP Try.underlying9 rfl h (hb.cell hi)) k
theorem NZ {t:TypeId} {cs:Array Value} {v:Value} (h:ev f x=.pointer (some ⟨b,o,none⟩)) (hb:mI w b t cs) (hi:cs[o]?=some v) (k:kM Try.prog N ops K rest (kF f d v) w):kM Try.prog N ops K (⟨d,.load 22 x,ty,pos,af,none⟩ :: rest) f w:=jS (jP Try.underlying22 rfl h (hb.cell hi)) k
theorem NT {t:TypeId} {cs:Array Value} {v:Value} (h:ev f x=.pointer (some ⟨b,o,none⟩)) (hb:mI w b t cs) (hi:cs[o]?=some v) (k:kM Try.prog N ops K rest (kF f d v) w):kM Try.prog N ops K (⟨d,.load 24 x,ty,pos,af,none⟩ :: rest) f w:=jS (jP Try.underlying24 rfl h (hb.cell hi)) k
theorem Ob {t:TypeId} {cs:Array Value} {v:Value} (h:ev f x=.pointer (some ⟨b,o,none⟩)) (hb:mI w b t cs) (hi:cs[o]?=some v) (k:kM Try.prog N ops K rest (kF f d v) w):kM Try.prog N ops K (⟨d,.load 27 x,ty,pos,af,none⟩ :: rest) f w:=jS (jP Try.underlying27 rfl h (hb.cell hi)) k
theorem Oq {t:TypeId} {cs:Array Value} {v:Value} (h:ev f x=.pointer (some ⟨b,o,none⟩)) (hb:mI w b t cs) (hi:cs[o]?=some v) (k:kM Try.prog N ops K rest (kF f d v) w):kM Try.prog N ops K (⟨d,.load 36 x,ty,pos,af,none⟩ :: rest) f w:=jS (jP Try.underlying36 rfl h (hb.cell hi)) k
theorem NG {t:TypeId} {cs:Array Value} {v:Value} (h:ev f x=.pointer (some ⟨b,o,none⟩)) (hb:mI w b t cs) (hi:cs[o]?=some v) (k:kM Try.prog N ops K rest (kF f d v) w):kM Try.prog N ops K (⟨d,.load 55 x,ty,pos,af,none⟩ :: rest) f w:=jS (jP Try.underlying55 rfl h (hb.cell hi)) k
theorem Nv {t:TypeId} {cs:Array Value} {v:Value} (h:ev f x=.pointer (some ⟨b,o,none⟩)) (hb:mI w b t cs) (hi:cs[o]?=some v) (k:kM Try.prog N ops K rest (kF f d v) w):kM Try.prog N ops K (⟨d,.load 51 x,ty,pos,af,none⟩ :: rest) f w:=jS (jP Try.underlying51 rfl h (hb.cell hi)) k
theorem NY {t:TypeId} {cs:Array Value} {v:Value} (h:ev f x=.pointer (some ⟨b,o,none⟩)) (hb:mI w b t cs) (hi:cs[o]?=some v) (k:kM Try.prog N ops K rest (kF f d v) w):kM Try.prog N ops K (⟨d,.load 60 x,ty,pos,af,none⟩ :: rest) f w:=jS (jP Try.underlying60 rfl h (hb.cell hi)) k
theorem NC {t:TypeId} {cs:Array Value} {v:Value} (h:ev f x=.pointer (some ⟨b,o,none⟩)) (hb:mI w b t cs) (hi:cs[o]?=some v) (k:kM Try.prog N ops K rest (kF f d v) w):kM Try.prog N ops K (⟨d,.load 80 x,ty,pos,af,none⟩ :: rest) f w:=jS (jP Try.underlying80 rfl h (hb.cell hi)) k
theorem Ou {t:TypeId} {cs:Array Value} {v:Value} (h:ev f x=.pointer (some ⟨b,o,none⟩)) (hb:mI w b t cs) (hi:cs[o]?=some v) (k:kM Try.prog N ops K rest (kF f d v) w):kM Try.prog N ops K (⟨d,.load 86 x,ty,pos,af,none⟩ :: rest) f w:=jS (jP Try.underlying86 rfl h (hb.cell hi)) k
theorem LJ {t:TypeId} {cs:Array Value} {v:Value} (h:ev f x=.pointer (some ⟨b,o,none⟩)) (hb:mI w b t cs) (hi:cs[o]?=some v) (k:kM Try.prog N ops K rest (kF f d v) w):kM Try.prog N ops K (⟨d,.load 87 x,ty,pos,af,none⟩ :: rest) f w:=jS (jP Try.underlying87 rfl h (hb.cell hi)) k
theorem G7 {t:TypeId} {cs:Array Value} {v:Value} (h:ev f x=.pointer (some ⟨b,o,none⟩)) (hb:mI w b t cs) (hi:cs[o]?=some v) (k:kM Try.prog N ops K rest (kF f d v) w):kM Try.prog N ops K (⟨d,.load 109 x,ty,pos,af,none⟩ :: rest) f w:=jS (jP Try.underlying109 rfl h (hb.cell hi)) k
theorem Hf {t:TypeId} {cs:Array Value} {v:Value} (h:ev f x=.pointer (some ⟨b,o,none⟩)) (hb:mI w b t cs) (hi:cs[o]?=some v) (k:kM Try.prog N ops K rest (kF f d v) w):kM Try.prog N ops K (⟨d,.load 117 x,ty,pos,af,none⟩ :: rest) f w:=jS (jP Try.underlying117 rfl h (hb.cell hi)) k
theorem Fj {t:TypeId} {cs:Array Value} {v:Value} (h:ev f x=.pointer (some ⟨b,o,none⟩)) (hb:mI w b t cs) (hi:cs[o]?=some v) (k:kM Try.prog N ops K rest (kF f d v) w):kM Try.prog N ops K (⟨d,.load 118 x,ty,pos,af,none⟩ :: rest) f w:=jS (jP Try.underlying118 rfl h (hb.cell hi)) k
theorem Oj {t:TypeId} {cs:Array Value} {v:Value} (h:ev f x=.pointer (some ⟨b,o,none⟩)) (hb:mI w b t cs) (hi:cs[o]?=some v) (k:kM Try.prog N ops K rest (kF f d v) w):kM Try.prog N ops K (⟨d,.load 70 x,ty,pos,af,none⟩ :: rest) f w:=jS (jP Try.underlying70 rfl h (hb.cell hi)) k
theorem Z8 {A:Option Addr} {n c:Nat} (h:ev f x=.slice A n c) (k:kM Try.prog N ops K rest (kF f d (V (n:Int))) w):kM Try.prog N ops K (⟨d,.call { callee:=.builtin .len,args:=#[x],argTypes:=#[22] },ty,pos,af,none⟩ :: rest) f w:=jS (lF Try.underlying22 h) k
theorem ZW {A:Option Addr} {n c:Nat} (h:ev f x=.slice A n c) (k:kM Try.prog N ops K rest (kF f d (V (n:Int))) w):kM Try.prog N ops K (⟨d,.call { callee:=.builtin .len,args:=#[x],argTypes:=#[24] },ty,pos,af,none⟩ :: rest) f w:=jS (lF Try.underlying24 h) k
theorem Zx {A:Option Addr} {n c:Nat} (h:ev f x=.slice A n c) (k:kM Try.prog N ops K rest (kF f d (V (n:Int))) w):kM Try.prog N ops K (⟨d,.call { callee:=.builtin .len,args:=#[x],argTypes:=#[27] },ty,pos,af,none⟩ :: rest) f w:=jS (lF Try.underlying27 h) k
theorem Zl {A:Option Addr} {n c:Nat} (h:ev f x=.slice A n c) (k:kM Try.prog N ops K rest (kF f d (V (n:Int))) w):kM Try.prog N ops K (⟨d,.call { callee:=.builtin .len,args:=#[x],argTypes:=#[36] },ty,pos,af,none⟩ :: rest) f w:=jS (lF Try.underlying36 h) k
theorem ZB {A:Option Addr} {n c:Nat} (h:ev f x=.slice A n c) (k:kM Try.prog N ops K rest (kF f d (V (n:Int))) w):kM Try.prog N ops K (⟨d,.call { callee:=.builtin .len,args:=#[x],argTypes:=#[51] },ty,pos,af,none⟩ :: rest) f w:=jS (lF Try.underlying51 h) k
theorem aad {A:Option Addr} {n c:Nat} (h:ev f x=.slice A n c) (k:kM Try.prog N ops K rest (kF f d (V (n:Int))) w):kM Try.prog N ops K (⟨d,.call { callee:=.builtin .len,args:=#[x],argTypes:=#[55] },ty,pos,af,none⟩ :: rest) f w:=jS (lF Try.underlying55 h) k
theorem ZE {A:Option Addr} {n c:Nat} (h:ev f x=.slice A n c) (k:kM Try.prog N ops K rest (kF f d (V (n:Int))) w):kM Try.prog N ops K (⟨d,.call { callee:=.builtin .len,args:=#[x],argTypes:=#[60] },ty,pos,af,none⟩ :: rest) f w:=jS (lF Try.underlying60 h) k
theorem Zp {A:Option Addr} {n c:Nat} (h:ev f x=.slice A n c) (k:kM Try.prog N ops K rest (kF f d (V (n:Int))) w):kM Try.prog N ops K (⟨d,.call { callee:=.builtin .len,args:=#[x],argTypes:=#[80] },ty,pos,af,none⟩ :: rest) f w:=jS (lF Try.underlying80 h) k
theorem Ym {A:Option Addr} {n c:Nat} (h:ev f x=.slice A n c) (k:kM Try.prog N ops K rest (kF f d (V (n:Int))) w):kM Try.prog N ops K (⟨d,.call { callee:=.builtin .len,args:=#[x],argTypes:=#[87] },ty,pos,af,none⟩ :: rest) f w:=jS (lF Try.underlying87 h) k
theorem Yq {A:Option Addr} {n c:Nat} (h:ev f x=.slice A n c) (k:kM Try.prog N ops K rest (kF f d (V (n:Int))) w):kM Try.prog N ops K (⟨d,.call { callee:=.builtin .len,args:=#[x],argTypes:=#[109] },ty,pos,af,none⟩ :: rest) f w:=jS (lF Try.underlying109 h) k
theorem XC {A:Option Addr} {n c:Nat} (h:ev f x=.slice A n c) (k:kM Try.prog N ops K rest (kF f d (V (n:Int))) w):kM Try.prog N ops K (⟨d,.call { callee:=.builtin .len,args:=#[x],argTypes:=#[118] },ty,pos,af,none⟩ :: rest) f w:=jS (lF Try.underlying118 h) k
theorem ZR {A:Option Addr} {n c:Nat} (h:ev f x=.slice A n c) (k:kM Try.prog N ops K rest (kF f d (V (n:Int))) w):kM Try.prog N ops K (⟨d,.call { callee:=.builtin .len,args:=#[x],argTypes:=#[70] },ty,pos,af,none⟩ :: rest) f w:=jS (lF Try.underlying70 h) k
end
section
variable {ρ:Operand→Value} {w w0:World} {d:Option Nat} {ty:TypeId} {pos:String} {af:Array Edge} {g:Option (Nat × Bool)} {x:Operand} {b o:Nat}
theorem Q7 (h:ρ x=.pointer (some ⟨b,o,none⟩)):Yl Try.prog ρ (.fieldAddr 138 x 2) d ty pos af g w (.pointer (some ⟨b,o+2,none⟩)):=kX (k:=2) Try.underlying138 rfl rfl mP (by decide) h
theorem MK (h:ρ x=.pointer (some ⟨b,o,none⟩)):Yl Try.prog ρ (.fieldAddr 111 x 6) d ty pos af g w (.pointer (some ⟨b,o+6,none⟩)):=kX (k:=6) Try.underlying111 rfl rfl mP (by decide) h
theorem MI (h:ρ x=.pointer (some ⟨b,o,none⟩)):Yl Try.prog ρ (.fieldAddr 111 x 9) d ty pos af g w (.pointer (some ⟨b,o+9,none⟩)):=kX (k:=9) Try.underlying111 rfl rfl mP (by decide) h
theorem Cy (h:ρ x=.pointer (some ⟨b,o,none⟩)):Yl Try.prog ρ (.fieldAddr 111 x 10) d ty pos af g w (.pointer (some ⟨b,o+10,none⟩)):=kX (k:=10) Try.underlying111 rfl rfl su (by decide) h
theorem MV (h:ρ x=.pointer (some ⟨b,o,none⟩)):Yl Try.prog ρ (.fieldAddr 120 x 0) d ty pos af g w (.pointer (some ⟨b,o,none⟩)):=qU Try.underlying120 rfl rfl mP (by decide) h
theorem Nf (h:ρ x=.pointer (some ⟨b,o,none⟩)):Yl Try.prog ρ (.fieldAddr 120 x 1) d ty pos af g w (.pointer (some ⟨b,o+1,none⟩)):=kX (k:=1) Try.underlying120 rfl rfl mP (by decide) h
theorem CO (h:ρ x=.pointer (some ⟨b,o,none⟩)):Yl Try.prog ρ (.fieldAddr 120 x 2) d ty pos af g w (.pointer (some ⟨b,o+2,none⟩)):=kX (k:=2) Try.underlying120 rfl rfl PW (by decide) h
theorem VH (h:ρ x=.pointer (some ⟨b,o,none⟩)):Yl Try.prog ρ (.fieldAddr 89 x 0) d ty pos af g w (.pointer (some ⟨b,o,none⟩)):=qU Try.underlying89 rfl rfl vR (by decide) h
theorem Fp (h:ρ x=.pointer (some ⟨b,o,none⟩)):Yl Try.prog ρ (.fieldAddr 89 x 1) d ty pos af g w (.pointer (some ⟨b,o+4,none⟩)):=kX (k:=4) Try.underlying89 rfl rfl OI (by decide) h
theorem Ww (h:ρ x=.pointer (some ⟨b,o,none⟩)):Yl Try.prog ρ (.fieldAddr 89 x 2) d ty pos af g w (.pointer (some ⟨b,o+5,none⟩)):=kX (k:=5) Try.underlying89 rfl rfl mP (by decide) h
theorem Uw (h:ρ x=.pointer (some ⟨b,o,none⟩)):Yl Try.prog ρ (.fieldAddr 89 x 3) d ty pos af g w (.pointer (some ⟨b,o+6,none⟩)):=kX (k:=6) Try.underlying89 rfl rfl mP (by decide) h
theorem Uh (h:ρ x=.pointer (some ⟨b,o,none⟩)):Yl Try.prog ρ (.fieldAddr 89 x 4) d ty pos af g w (.pointer (some ⟨b,o+7,none⟩)):=kX (k:=7) Try.underlying89 rfl rfl mP (by decide) h
theorem WB (h:ρ x=.pointer (some ⟨b,o,none⟩)):Yl Try.prog ρ (.fieldAddr 89 x 5) d ty pos af g w (.pointer (some ⟨b,o+8,none⟩)):=kX (k:=8) Try.underlying89 rfl rfl mP (by decide) h
theorem JB (h:ρ x=.pointer (some ⟨b,o,none⟩)):Yl Try.prog ρ (.fieldAddr 89 x 6) d ty pos af g w (.pointer (some ⟨b,o+9,none⟩)):=kX (k:=9) Try.underlying89 rfl rfl Mw (by decide) h
theorem Ik (h:ρ x=.pointer (some ⟨b,o,none⟩)):Yl Try.prog ρ (.fieldAddr 89 x 7) d ty pos af g w (.pointer (some ⟨b,o+10,none⟩)):=kX (k:=10) Try.underlying89 rfl rfl Aj (by decide) h
theorem Ui (h:ρ x=.pointer (some ⟨b,o,none⟩)):Yl Try.prog ρ (.fieldAddr 59 x 3) d ty pos af g w (.pointer (some ⟨b,o+3,none⟩)):=kX (k:=3) Try.underlying59 rfl rfl mP (by decide) h
theorem Qu (h:ρ x=.pointer (some ⟨b,o,none⟩)):Yl Try.prog ρ (.fieldAddr 50 x 0) d ty pos af g w (.pointer (some ⟨b,o,none⟩)):=qU Try.underlying50 rfl rfl R3 (by decide) h
theorem JE {t:TypeId} {cs:Array Value} {v:Value} (h:ρ x=.pointer (some ⟨b,o,none⟩)) (hb:mI w b t cs) (hi:cs[o]?=some v):Yl Try.prog ρ (.load 3 x) d ty pos af g w v:=jP Try.underlying3 rfl h (hb.cell hi)
theorem W9 {t:TypeId} {cs:Array Value} {v:Value} (h:ρ x=.pointer (some ⟨b,o,none⟩)) (hb:mI w b t cs) (hi:cs[o]?=some v):Yl Try.prog ρ (.load 4 x) d ty pos af g w v:=jP Try.underlying4 rfl h (hb.cell hi)
theorem VF {t:TypeId} {cs:Array Value} {v:Value} (h:ρ x=.pointer (some ⟨b,o,none⟩)) (hb:mI w b t cs) (hi:cs[o]?=some v):Yl Try.prog ρ (.load 22 x) d ty pos af g w v:=jP Try.underlying22 rfl h (hb.cell hi)
theorem NH {t:TypeId} {cs:Array Value} {v:Value} (h:ρ x=.pointer (some ⟨b,o,none⟩)) (hb:mI w b t cs) (hi:cs[o]?=some v):Yl Try.prog ρ (.load 36 x) d ty pos af g w v:=jP Try.underlying36 rfl h (hb.cell hi)
theorem Zv {t:TypeId} {cs:Array Value} {v:Value} (h:ρ x=.pointer (some ⟨b,o,none⟩)) (hb:mI w b t cs) (hi:cs[o]?=some v):Yl Try.prog ρ (.load 48 x) d ty pos af g w v:=jP Try.underlying48 rfl h (hb.cell hi)
theorem DK {t:TypeId} {cs:Array Value} {v:Value} (h:ρ x=.pointer (some ⟨b,o,none⟩)) (hb:mI w b t cs) (hi:cs[o]?=some v):Yl Try.prog ρ (.load 86 x) d ty pos af g w v:=jP Try.underlying86 rfl h (hb.cell hi)
theorem RU {t:TypeId} {cs:Array Value} {v:Value} (h:ρ x=.pointer (some ⟨b,o,none⟩)) (hb:mI w b t cs) (hi:cs[o]?=some v):Yl Try.prog ρ (.load 87 x) d ty pos af g w v:=jP Try.underlying87 rfl h (hb.cell hi)
theorem MW {t:TypeId} {cs:Array Value} {v:Value} (h:ρ x=.pointer (some ⟨b,o,none⟩)) (hb:mI w b t cs) (hi:cs[o]?=some v):Yl Try.prog ρ (.load 109 x) d ty pos af g w v:=jP Try.underlying109 rfl h (hb.cell hi)
theorem Nb {t:TypeId} {cs:Array Value} {v:Value} (h:ρ x=.pointer (some ⟨b,o,none⟩)) (hb:mI w b t cs) (hi:cs[o]?=some v):Yl Try.prog ρ (.load 118 x) d ty pos af g w v:=jP Try.underlying118 rfl h (hb.cell hi)
end
theorem goB {w0 w:World} {Z G':Nat→Prop} {Lt:List It} {D:List Da} {G R:Prop} (e:Bx w0 w Z G' Lt D) (k:R) (h:Bx w0 w Z G' Lt D→R→G:=by
 intro e k
 repeat (first
  | refine Ji ?_
  | refine zY ?_
  | refine Lu ?_
  | refine EK ?_
  | refine nS ?_
  | refine Yv rfl ?_
  | refine Xk rfl ?_
  | refine Xg rfl ?_
  | refine YA rfl ?_
  | refine Xq rfl ?_
  | refine aNl rfl ?_
  | refine YT rfl ?_
  | refine YV rfl ?_
  | refine XJ rfl ?_
  | refine YI rfl ?_
  | refine Xh rfl ?_
  | refine XW rfl rfl ?_
  | refine Yp rfl rfl ?_
  | refine Xv rfl rfl ?_
  | refine XZ rfl rfl ?_
  | refine XF rfl rfl ?_
  | refine YK rfl rfl ?_
  | refine XA rfl rfl ?_
  | refine XU rfl rfl ?_
  | refine Ya rfl rfl ?_
  | refine YM rfl rfl ?_
  | refine XH rfl rfl ?_
  | refine aOr rfl rfl ?_
  | refine Ye rfl rfl ?_
  | refine X3 rfl ?_
  | refine Xn rfl rfl ?_
  | refine Yt rfl rfl ?_
  | refine XB rfl ?_
  | refine Xc rfl ?_
  | refine Xz rfl ?_
  | refine jJ rfl ?_
  | refine jD rfl ?_
  | refine Sq rfl ?_
  | refine QV rfl ?_
  | refine Rz rfl ?_
  | refine QS rfl ?_
  | refine Rv rfl ?_
  | refine RG rfl ?_
  | refine Rc rfl ?_
  | refine QT rfl ?_
  | refine SH rfl ?_
  | refine RL rfl ?_
  | refine SB rfl ?_
  | refine QW rfl ?_
  | refine Sv rfl ?_
  | refine Sn rfl ?_
  | refine Sk rfl ?_
  | refine R4 rfl ?_
  | refine Pw rfl ?_
  | refine PK rfl ?_
  | refine OD rfl ?_
  | refine RV rfl ?_
  | refine Nj rfl ?_
  | refine R9 rfl ?_
  | refine VI rfl ?_
  | refine Wo rfl ?_
  | refine UM rfl ?_
  | refine UU rfl ?_
  | refine U1 rfl ?_
  | refine Wy rfl ?_
  | refine WE rfl ?_
  | refine U6 rfl ?_
  | refine Vo rfl ?_
  | refine UJ rfl ?_
  | refine VD rfl ?_
  | refine Vw rfl ?_
  | refine Vs rfl ?_
  | refine Ws rfl ?_
  | refine Vr rfl ?_
  | refine UA rfl ?_
  | refine VR rfl ?_
  | refine Wx rfl ?_
  | refine Vj rfl ?_
  | refine Vd rfl ?_
  | refine VX rfl ?_
  | refine Wu rfl ?_
  | refine Wp rfl ?_
  | refine UL rfl ?_
  | refine WC rfl ?_
  | refine VL rfl ?_
  | refine Vu rfl ?_
  | refine Vv rfl ?_
  | refine Uk rfl ?_
  | refine Vq rfl ?_
  | refine Uo rfl ?_
  | refine Uq rfl ?_
  | refine Z8 rfl ?_
  | refine ZW rfl ?_
  | refine Zx rfl ?_
  | refine Zl rfl ?_
  | refine ZB rfl ?_
  | refine aad rfl ?_
  | refine ZE rfl ?_
  | refine Zp rfl ?_
  | refine Ym rfl ?_
  | refine Yq rfl ?_
  | refine XC rfl ?_
  | refine ZR rfl ?_
  | refine Ue rfl (e.bk 0 rfl) rfl ?_
  | refine WO rfl (e.bk 0 rfl) rfl ?_
  | refine G7 rfl (e.bk 0 rfl) rfl ?_
  | refine Ou rfl (e.bk 0 rfl) rfl ?_
  | refine Hf rfl (e.bk 0 rfl) rfl ?_
  | refine Fj rfl (e.bk 0 rfl) rfl ?_
  | refine NZ rfl (e.bk 0 rfl) rfl ?_
  | refine NC rfl (e.bk 0 rfl) rfl ?_
  | refine LJ rfl (e.bk 0 rfl) rfl ?_
  | refine WV rfl (e.bk 0 rfl) rfl ?_
  | refine NT rfl (e.bk 0 rfl) rfl ?_
  | refine Ob rfl (e.bk 0 rfl) rfl ?_
  | refine Oq rfl (e.bk 0 rfl) rfl ?_
  | refine NY rfl (e.bk 0 rfl) rfl ?_
  | refine Oj rfl (e.bk 0 rfl) rfl ?_
  | refine Nv rfl (e.bk 0 rfl) rfl ?_
  | refine NG rfl (e.bk 0 rfl) rfl ?_
  | refine Ue rfl (e.bk 1 rfl) rfl ?_
  | refine WO rfl (e.bk 1 rfl) rfl ?_
  | refine G7 rfl (e.bk 1 rfl) rfl ?_
  | refine Ou rfl (e.bk 1 rfl) rfl ?_
  | refine Hf rfl (e.bk 1 rfl) rfl ?_
  | refine Fj rfl (e.bk 1 rfl) rfl ?_
  | refine NZ rfl (e.bk 1 rfl) rfl ?_
  | refine NC rfl (e.bk 1 rfl) rfl ?_
  | refine LJ rfl (e.bk 1 rfl) rfl ?_
  | refine WV rfl (e.bk 1 rfl) rfl ?_
  | refine NT rfl (e.bk 1 rfl) rfl ?_
  | refine Ob rfl (e.bk 1 rfl) rfl ?_
  | refine Oq rfl (e.bk 1 rfl) rfl ?_
  | refine NY rfl (e.bk 1 rfl) rfl ?_
  | refine Oj rfl (e.bk 1 rfl) rfl ?_
  | refine Nv rfl (e.bk 1 rfl) rfl ?_
  | refine NG rfl (e.bk 1 rfl) rfl ?_
  | refine Ue rfl (e.bk 2 rfl) rfl ?_
  | refine WO rfl (e.bk 2 rfl) rfl ?_
  | refine G7 rfl (e.bk 2 rfl) rfl ?_
  | refine Ou rfl (e.bk 2 rfl) rfl ?_
  | refine Hf rfl (e.bk 2 rfl) rfl ?_
  | refine Fj rfl (e.bk 2 rfl) rfl ?_
  | refine NZ rfl (e.bk 2 rfl) rfl ?_
  | refine NC rfl (e.bk 2 rfl) rfl ?_
  | refine LJ rfl (e.bk 2 rfl) rfl ?_
  | refine WV rfl (e.bk 2 rfl) rfl ?_
  | refine NT rfl (e.bk 2 rfl) rfl ?_
  | refine Ob rfl (e.bk 2 rfl) rfl ?_
  | refine Oq rfl (e.bk 2 rfl) rfl ?_
  | refine NY rfl (e.bk 2 rfl) rfl ?_
  | refine Oj rfl (e.bk 2 rfl) rfl ?_
  | refine Nv rfl (e.bk 2 rfl) rfl ?_
  | refine NG rfl (e.bk 2 rfl) rfl ?_
  | refine Ue rfl (e.bk 3 rfl) rfl ?_
  | refine WO rfl (e.bk 3 rfl) rfl ?_
  | refine G7 rfl (e.bk 3 rfl) rfl ?_
  | refine Ou rfl (e.bk 3 rfl) rfl ?_
  | refine Hf rfl (e.bk 3 rfl) rfl ?_
  | refine Fj rfl (e.bk 3 rfl) rfl ?_
  | refine NZ rfl (e.bk 3 rfl) rfl ?_
  | refine NC rfl (e.bk 3 rfl) rfl ?_
  | refine LJ rfl (e.bk 3 rfl) rfl ?_
  | refine WV rfl (e.bk 3 rfl) rfl ?_
  | refine NT rfl (e.bk 3 rfl) rfl ?_
  | refine Ob rfl (e.bk 3 rfl) rfl ?_
  | refine Oq rfl (e.bk 3 rfl) rfl ?_
  | refine NY rfl (e.bk 3 rfl) rfl ?_
  | refine Oj rfl (e.bk 3 rfl) rfl ?_
  | refine Nv rfl (e.bk 3 rfl) rfl ?_
  | refine NG rfl (e.bk 3 rfl) rfl ?_
  | refine Ue rfl (e.bk 4 rfl) rfl ?_
  | refine WO rfl (e.bk 4 rfl) rfl ?_
  | refine G7 rfl (e.bk 4 rfl) rfl ?_
  | refine Ou rfl (e.bk 4 rfl) rfl ?_
  | refine Hf rfl (e.bk 4 rfl) rfl ?_
  | refine Fj rfl (e.bk 4 rfl) rfl ?_
  | refine NZ rfl (e.bk 4 rfl) rfl ?_
  | refine NC rfl (e.bk 4 rfl) rfl ?_
  | refine LJ rfl (e.bk 4 rfl) rfl ?_
  | refine WV rfl (e.bk 4 rfl) rfl ?_
  | refine NT rfl (e.bk 4 rfl) rfl ?_
  | refine Ob rfl (e.bk 4 rfl) rfl ?_
  | refine Oq rfl (e.bk 4 rfl) rfl ?_
  | refine NY rfl (e.bk 4 rfl) rfl ?_
  | refine Oj rfl (e.bk 4 rfl) rfl ?_
  | refine Nv rfl (e.bk 4 rfl) rfl ?_
  | refine NG rfl (e.bk 4 rfl) rfl ?_
  | refine Ue rfl (e.bk 5 rfl) rfl ?_
  | refine WO rfl (e.bk 5 rfl) rfl ?_
  | refine G7 rfl (e.bk 5 rfl) rfl ?_
  | refine Ou rfl (e.bk 5 rfl) rfl ?_
  | refine Hf rfl (e.bk 5 rfl) rfl ?_
  | refine Fj rfl (e.bk 5 rfl) rfl ?_
  | refine NZ rfl (e.bk 5 rfl) rfl ?_
  | refine NC rfl (e.bk 5 rfl) rfl ?_
  | refine LJ rfl (e.bk 5 rfl) rfl ?_
  | refine WV rfl (e.bk 5 rfl) rfl ?_
  | refine NT rfl (e.bk 5 rfl) rfl ?_
  | refine Ob rfl (e.bk 5 rfl) rfl ?_
  | refine Oq rfl (e.bk 5 rfl) rfl ?_
  | refine NY rfl (e.bk 5 rfl) rfl ?_
  | refine Oj rfl (e.bk 5 rfl) rfl ?_
  | refine Nv rfl (e.bk 5 rfl) rfl ?_
  | refine NG rfl (e.bk 5 rfl) rfl ?_)
 exact k):G:=h e k
end Go.Proofs.Ytfglbdkfnphjgaa
set_option linter.unusedVariables false
namespace Go.Proofs.Ytfglbdkfnphjgaa
open Go.RowKit Go.Fw
structure tZ where
 f:Int
 st:Int
 ws:List (List Int)
inductive Pn (α:Type) where
 | ok (a:α)
 | Es (v:Int)
 | err (e:Int)
 | rt
def Pn.el {α β:Type} (p:Pn α) (f:α→β) (g:∀ {γ:Type},Pn γ):β ⊕ Unit:=match p with | .ok a=>.inl (f a)|_=>.inr ()
def Pn.up {α β:Type}:Pn α→Pn β
 | .ok _=>.rt
 | .Es v=>.Es v
 | .err e=>.err e
 | .rt=>.rt
def Pn.then {α β:Type}:Pn α→(α→Option (Pn β))→Option (Pn β)
 | .ok a,f=>f a
 | .Es v,_=>some (.Es v)
 | .err e,_=>some (.err e)
 | .rt,_=>some .rt
def ix? {α:Type} (l:List α) (i:Int):Option α:=if i < 0 then none else l[i.toNat]?
def RZ (op x y:Int):Pn Int:=
 if op=6 then .ok (wr (x+y)) else if op=7 then .ok (wr (x - y)) else if op=8 then .ok (wr (x * y))
 else if op=9 then (if y=0 then .Es 1 else .ok (wr (x.tdiv y))) else if op=10 then (if y=0 then .Es 1 else .ok (x.tmod y))
 else if op=11 then .ok (Ep (· &&& ·) x y) else if op=12 then .ok (Ep (· ||| ·) x y) else if op=13 then .ok (Ep (· ^^^ ·) x y)
 else if op=14 then .ok (BD (decide (x < y))) else if op=15 then .ok (BD (decide (x≤y))) else if op=16 then .ok (BD (decide (x=y))) else if op=17 then .ok (BD (decide (x≠y)))
 else .err 4
def Q0 (ev:jA→Option (Pn Int)) (ws:List (List Int)) (e:jA):Option (Pn (Nat × Nat)):=
 match ix? ws e.g with
 | none=>some .rt
 | some l=>
  if e.e=2 then some (if 0≤e.c∧e.c < l.length then .ok (e.g.toNat,e.c.toNat) else .rt)
  else if e.e=3 then
   match e.a with
   | []=>some .rt
   | x :: _=>(ev x).bind fun p=>p.then fun i=>some (if i < 0 ∨ (l.length:Int)≤i then .Es 2 else .ok (e.g.toNat,i.toNat))
  else some (if l=[] then .rt else .ok (e.g.toNat,0))
def Us (ws:List (List Int)) (p:Nat × Nat):Int:=(ws.getD p.1 []).getD p.2 0
def setW (ws:List (List Int)) (p:Nat × Nat) (v:Int):List (List Int):=ws.set p.1 ((ws.getD p.1 []).set p.2 v)
def CX:Nat→List (List Int)→jA→Option (Pn Int)
 | 0,_,_=>none
 | fu+1,ws,e=>
  if e.e=0 then some (.ok e.c)
  else if e.e=1 ∨ e.e=2 ∨ e.e=3 then (Q0 (CX fu ws) ws e).bind fun p=>p.then fun q=>some (.ok (Us ws q))
  else if e.e=4 then match e.a with
   | []=>some .rt
   | x :: _=>(CX fu ws x).bind fun p=>p.then fun n=>some (.ok (wr (0 - n)))
  else if e.e=5 then match e.a with
   | []=>some .rt
   | x :: _=>(CX fu ws x).bind fun p=>p.then fun n=>some (.ok (BD (decide (n=0))))
  else match e.a with
   | []=>some .rt
   | x :: l=>(CX fu ws x).bind fun p=>p.then fun n=>match l with
    | []=>some .rt
    | y :: _=>(CX fu ws y).bind fun p=>p.then fun m=>some (RZ e.e n m)
def Jh (ev:jA→Option (Pn Int)):List jA→List Int→Option (Pn (List Int))
 | [],acc=>some (.ok acc)
 | x :: l,acc=>(ev x).bind fun p=>p.then fun n=>(app acc [n]).bind fun acc=>Jh ev l acc
structure Sg where
 a:tZ
 hist:List kV
 out:List Int
def QH (ws:List (List Int)):List Int→List rP→Option (List rP)
 | [],acc=>some acc
 | v :: l,acc=>(ix? ws v).bind fun r=>(app acc [(⟨v,List.replicate r.length true,r⟩:rP)]).bind fun acc=>QH ws l acc
def WX (vis:Int→Int→Option (List Int)) (g:tZ):Option pK:=
 (vis g.f g.st).bind fun l=>(QH g.ws l []).bind fun vs=>some ⟨g.f,g.st,vs⟩
def TD (vis:Int→Int→Option (List Int)):List tZ→List pK→Option (List pK)
 | [],acc=>some acc
 | g :: l,acc=>(WX vis g).bind fun f=>(app acc [f]).bind fun acc=>TD vis l acc
def event (vis:Int→Int→Option (List Int)) (steps:Nat) (rest:List tZ) (s:Sg) (id:Int):Option (Pn Unit × Sg):=
 if steps≤s.hist.length then some (.err 13,s)
 else (TD vis ((⟨s.a.f,id,s.a.ws⟩:tZ) :: rest) []).bind fun fs=>some (.ok (),⟨⟨s.a.f,id,s.a.ws⟩,s.hist ++ [⟨fs⟩],s.out⟩)
abbrev Sm:=Sg→jO→Option (Pn (Option Int) × Sg)
def JF (sm:Sm):Sg→List jO→Option (Pn (Option Int) × Sg)
 | s,[]=>some (.ok none,s)
 | s,x :: l=>(sm s x).bind fun (p,s)=>match p with
  | .ok none=>JF sm s l
  | p=>some (p,s)
def Fq:List jV→List (List Int)→Option (Pn (List (List Int)))
 | [],acc=>some (.ok acc)
 | v :: l,acc=>if v.a < 0 ∨ 8 < v.a then some (.err 4) else (app acc [List.replicate v.a.toNat 0]).bind fun acc=>Fq l acc
def IC:List Int→Nat→List (List Int)→Pn (List (List Int))
 | [],_,ws=>.ok ws
 | v :: l,i,ws=>match ws[i]? with
  | none=>.rt
  | some []=>.rt
  | some (_ :: r)=>IC l (i+1) (ws.set i (v :: r))
def D9 (sm:List tZ→Sm) (src:jK) (stk:List tZ) (f:Int) (args:List Int) (hist:List kV) (out:List Int):Option (Pn Int × List kV × List Int):=
 if 20≤stk.length then some (.err 5,hist,out)
 else match ix? src.b f with
  | none=>some (.rt,hist,out)
  | some vars=>(Fq vars []).bind fun p=>match p with
   | .ok ws=>match IC args 0 ws with
    | .ok ws=>match ix? src.a.b f with
     | none=>some (.rt,hist,out)
     | some fn=>(JF (sm stk) ⟨⟨f,0,ws⟩,hist,out⟩ fn.d).bind fun (p,s)=>some (match p with | .ok r=>.ok (r.getD 0)|p=>p.up,s.hist,s.out)
    | p=>some (p.up,hist,out)
   | p=>some (p.up,hist,out)
def one (ev:jA→Option (Pn Int)) (l:List jA) (s:Sg) {β:Type} (k:Int→Option (Pn β × Sg)):Option (Pn β × Sg):=match l with
 | []=>some (.rt,s)
 | x :: _=>(ev x).bind fun p=>match p with
  | .ok n=>k n
  | p=>some (p.up,s)
def WT (cond:Sg→Option (Pn Int)) (body:Sg→Option (Pn (Option Int) × Sg)) (ev:Sg→Option (Pn Unit × Sg)):Nat→Sg→Option (Pn (Option Int) × Sg)
 | 0,_=>none
 | n+1,s=>(cond s).bind fun p=>match p with
  | .ok v=>if v=0 then some (.ok none,s) else (body s).bind fun (p,s)=>match p with
   | .ok none=>(ev s).bind fun (p,s)=>match p with
    | .ok _=>WT cond body ev n s
    | p=>some (p.up,s)
   | p=>some (p,s)
  | p=>some (p.up,s)
def Oo (ev:jA→Option (Pn Int)) (ws:List (List Int)) (l:List jA) (s:Sg) {β:Type} (k:Nat × Nat→Option (Pn β × Sg)):Option (Pn β × Sg):=match l with
 | []=>some (.rt,s)
 | x :: _=>(Q0 ev ws x).bind fun p=>match p with
  | .ok n=>k n
  | p=>some (p.up,s)
def Zb (ev:jA→Option (Pn Int)):List jA→Option (Pn Int)
 | []=>some .rt
 | e :: _=>ev e
def wdA (ev:jA→Option (Pn Int)) (ws:List (List Int)):List jA→Option (Pn (Nat × Nat))
 | []=>some .rt
 | e :: _=>Q0 ev ws e
def F5 (sm:List tZ→Sm) (src:jK) (rest:List tZ) (fu:Nat) (s:Sg) (x:jO) (k:Int→Sg→Option (Pn (Option Int) × Sg)):Option (Pn (Option Int) × Sg):=
 (Jh (CX fu s.a.ws) x.a []).bind fun p=>match p with
  | .ok l=>(D9 sm src (s.a :: rest) x.i l s.hist s.out).bind fun (p,h,o)=>match p with
   | .ok v=>k v { s with hist:=h,out:=o }
   | p=>some (p.up,{ s with hist:=h,out:=o })
  | p=>some (p.up,s)
def stM (vis:Int→Int→Option (List Int)) (src:jK) (steps:Nat):Nat→List tZ→Sm
 | 0,_,_,_=>none
 | fu+1,rest,s,x=>(event vis steps rest s x.n).bind fun (p,s)=>match p with
  | .ok _=>
   if x.e=1 then match ix? s.a.ws x.g with
    | none=>some (.rt,s)
    | some l=>some (.ok none,{ s with a:={ s.a with ws:=s.a.ws.set x.g.toNat (List.replicate l.length 0) } })
   else if x.e=2 then Oo (CX fu s.a.ws) s.a.ws x.c s fun q=>one (CX fu s.a.ws) x.a s fun v=>some (.ok none,{ s with a:={ s.a with ws:=setW s.a.ws q v } })
   else if x.e=3 then F5 (stM vis src steps fu) src rest fu s x fun v s=>if x.c.length=0 then some (.ok none,s) else Oo (CX fu s.a.ws) s.a.ws x.c s fun q=>some (.ok none,{ s with a:={ s.a with ws:=setW s.a.ws q v } })
   else if x.e=4 then one (CX fu s.a.ws) x.a s fun v=>JF (stM vis src steps fu rest) s (if v≠0 then x.d else x.h)
   else if x.e=5 then WT (fun s=>Zb (CX fu s.a.ws) x.a) (fun s=>JF (stM vis src steps fu rest) s x.d) (fun s=>event vis steps rest s x.n) fu s
   else if x.e=6 then
    if x.k≠be then F5 (stM vis src steps fu) src rest fu s x fun v s=>some (.ok (some v),s)
    else one (CX fu s.a.ws) x.a s fun v=>some (.ok (some v),s)
   else if x.e=7 then one (CX fu s.a.ws) x.a s fun v=>some (.Es v,s)
   else if x.e=8 then (JF (stM vis src steps fu rest) s x.d).bind fun (p,s)=>match p with
    | .Es v=>match ix? s.a.ws x.g with
     | none=>some (.rt,s)
     | some []=>some (.rt,s)
     | some (_ :: r)=>JF (stM vis src steps fu rest) { s with a:={ s.a with ws:=s.a.ws.set x.g.toNat (v :: r) } } x.h
    | p=>some (p,s)
   else if x.e=9 then one (CX fu s.a.ws) x.a s fun v=>(app s.out [v]).bind fun o=>some (.ok none,{ s with out:=o })
   else if x.e=10 then some (.ok (some 0),s)
   else some (.ok none,s)
  | p=>some (p.up,s)
def window (hist:List kV) (from_ most:Nat):List kV:=(hist.drop from_).take most
def traceM (fu:Nat) (vis:Int→Int→Option (List Int)) (src:jK) (f:Int) (args:List Int) (steps from_ most:Int):Option (List kV × qX):=
 match ix? src.a.b f with
 | none=>some ([],⟨1,false,0,[]⟩)
 | some fn=>
  if args.length≠fn.a.length ∨ steps < 0 ∨ 5000 < steps ∨ from_ < 0 ∨ most < 0 ∨ 100 < most then some ([],⟨1,false,0,[]⟩)
  else (D9 (stM vis src steps.toNat fu) src [] f args [] []).bind fun (p,h,o)=>some (window h from_.toNat most.toNat,match p with
   | .ok v=>⟨0,false,v,o⟩
   | .Es v=>⟨0,true,v,o⟩
   | .err e=>⟨e,false,0,o⟩
   | .rt=>⟨4,false,0,o⟩)
end Go.Proofs.Ytfglbdkfnphjgaa
