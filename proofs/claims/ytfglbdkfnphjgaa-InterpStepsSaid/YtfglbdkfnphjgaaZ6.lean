/- Fields, loads and lengths among the steps that need no choice. -/
import Derived.Test.YtfglbdkfnphjgaaZ5
set_option linter.unusedVariables false
namespace Go.Proofs.Ytfglbdkfnphjgaa
open Go.RowKit Go.Fw
theorem L9:TI Try.prog 36 sn 1 24:=nY (by kernel_rfl)
theorem O9:TI Try.prog 87 sn 1 24:=nY (by kernel_rfl)
theorem Qw:TI Try.prog 118 sn 1 24:=nY (by kernel_rfl)
theorem Yr:TI Try.prog 86 (.pointer none) 1 8:=nY (by kernel_rfl)
theorem NG:TI Try.prog 117 (.pointer none) 1 8:=nY (by kernel_rfl)
theorem UK:TI Try.prog 90 (V 0) 1 8:=nY (by kernel_rfl)
theorem ZG:TI Try.prog 91 (V 0) 1 8:=nY (by kernel_rfl)
section
variable {N:Fz} {ops:Array Oper} {K:KK} {rest:List Oper} {f:Fr} {w w0:World} {d:Option Nat} {ty:TypeId} {pos:String} {af:Array Edge} {x:Operand} {b o:Nat} {Z G:Nat→Prop} {Lt:List It} {D:List Da}
theorem SV (h:ev f x=.pointer (some ⟨b,o,none⟩)) (k:kQ Try.prog N ops K rest (kI f d (.pointer (some ⟨b,o,none⟩))) w):kQ Try.prog N ops K (⟨d,.fieldAddr 138 x 0,ty,pos,af,none⟩ :: rest) f w:=jS (qN Try.underlying138 rfl rfl mK (by decide) h) k
theorem Tw (h:ev f x=.pointer (some ⟨b,o,none⟩)) (k:kQ Try.prog N ops K rest (kI f d (.pointer (some ⟨b,o+1,none⟩))) w):kQ Try.prog N ops K (⟨d,.fieldAddr 138 x 1,ty,pos,af,none⟩ :: rest) f w:=jS (kY (k:=1) Try.underlying138 rfl rfl mK (by decide) h) k
theorem Ro (h:ev f x=.pointer (some ⟨b,o,none⟩)) (k:kQ Try.prog N ops K rest (kI f d (.pointer (some ⟨b,o+2,none⟩))) w):kQ Try.prog N ops K (⟨d,.fieldAddr 138 x 2,ty,pos,af,none⟩ :: rest) f w:=jS (kY (k:=2) Try.underlying138 rfl rfl mK (by decide) h) k
theorem RX (h:ev f x=.pointer (some ⟨b,o,none⟩)) (k:kQ Try.prog N ops K rest (kI f d (.pointer (some ⟨b,o+3,none⟩))) w):kQ Try.prog N ops K (⟨d,.fieldAddr 138 x 3,ty,pos,af,none⟩ :: rest) f w:=jS (kY (k:=3) Try.underlying138 rfl rfl nU (by decide) h) k
theorem SB (h:ev f x=.pointer (some ⟨b,o,none⟩)) (k:kQ Try.prog N ops K rest (kI f d (.pointer (some ⟨b,o+4,none⟩))) w):kQ Try.prog N ops K (⟨d,.fieldAddr 138 x 4,ty,pos,af,none⟩ :: rest) f w:=jS (kY (k:=4) Try.underlying138 rfl rfl nU (by decide) h) k
theorem Rv (h:ev f x=.pointer (some ⟨b,o,none⟩)) (k:kQ Try.prog N ops K rest (kI f d (.pointer (some ⟨b,o+5,none⟩))) w):kQ Try.prog N ops K (⟨d,.fieldAddr 138 x 5,ty,pos,af,none⟩ :: rest) f w:=jS (kY (k:=5) Try.underlying138 rfl rfl rY (by decide) h) k
theorem Tq (h:ev f x=.pointer (some ⟨b,o,none⟩)) (k:kQ Try.prog N ops K rest (kI f d (.pointer (some ⟨b,o,none⟩))) w):kQ Try.prog N ops K (⟨d,.fieldAddr 111 x 0,ty,pos,af,none⟩ :: rest) f w:=jS (qN Try.underlying111 rfl rfl mK (by decide) h) k
theorem Sw (h:ev f x=.pointer (some ⟨b,o,none⟩)) (k:kQ Try.prog N ops K rest (kI f d (.pointer (some ⟨b,o+1,none⟩))) w):kQ Try.prog N ops K (⟨d,.fieldAddr 111 x 1,ty,pos,af,none⟩ :: rest) f w:=jS (kY (k:=1) Try.underlying111 rfl rfl mK (by decide) h) k
theorem Ry (h:ev f x=.pointer (some ⟨b,o,none⟩)) (k:kQ Try.prog N ops K rest (kI f d (.pointer (some ⟨b,o+2,none⟩))) w):kQ Try.prog N ops K (⟨d,.fieldAddr 111 x 2,ty,pos,af,none⟩ :: rest) f w:=jS (kY (k:=2) Try.underlying111 rfl rfl mK (by decide) h) k
theorem Tg (h:ev f x=.pointer (some ⟨b,o,none⟩)) (k:kQ Try.prog N ops K rest (kI f d (.pointer (some ⟨b,o+3,none⟩))) w):kQ Try.prog N ops K (⟨d,.fieldAddr 111 x 3,ty,pos,af,none⟩ :: rest) f w:=jS (kY (k:=3) Try.underlying111 rfl rfl nU (by decide) h) k
theorem Tz (h:ev f x=.pointer (some ⟨b,o,none⟩)) (k:kQ Try.prog N ops K rest (kI f d (.pointer (some ⟨b,o+4,none⟩))) w):kQ Try.prog N ops K (⟨d,.fieldAddr 111 x 4,ty,pos,af,none⟩ :: rest) f w:=jS (kY (k:=4) Try.underlying111 rfl rfl nU (by decide) h) k
theorem Sj (h:ev f x=.pointer (some ⟨b,o,none⟩)) (k:kQ Try.prog N ops K rest (kI f d (.pointer (some ⟨b,o+5,none⟩))) w):kQ Try.prog N ops K (⟨d,.fieldAddr 111 x 5,ty,pos,af,none⟩ :: rest) f w:=jS (kY (k:=5) Try.underlying111 rfl rfl mK (by decide) h) k
theorem SF (h:ev f x=.pointer (some ⟨b,o,none⟩)) (k:kQ Try.prog N ops K rest (kI f d (.pointer (some ⟨b,o+6,none⟩))) w):kQ Try.prog N ops K (⟨d,.fieldAddr 111 x 6,ty,pos,af,none⟩ :: rest) f w:=jS (kY (k:=6) Try.underlying111 rfl rfl mK (by decide) h) k
theorem RB (h:ev f x=.pointer (some ⟨b,o,none⟩)) (k:kQ Try.prog N ops K rest (kI f d (.pointer (some ⟨b,o+7,none⟩))) w):kQ Try.prog N ops K (⟨d,.fieldAddr 111 x 7,ty,pos,af,none⟩ :: rest) f w:=jS (kY (k:=7) Try.underlying111 rfl rfl rY (by decide) h) k
theorem Tp (h:ev f x=.pointer (some ⟨b,o,none⟩)) (k:kQ Try.prog N ops K rest (kI f d (.pointer (some ⟨b,o+8,none⟩))) w):kQ Try.prog N ops K (⟨d,.fieldAddr 111 x 8,ty,pos,af,none⟩ :: rest) f w:=jS (kY (k:=8) Try.underlying111 rfl rfl nU (by decide) h) k
theorem Tv (h:ev f x=.pointer (some ⟨b,o,none⟩)) (k:kQ Try.prog N ops K rest (kI f d (.pointer (some ⟨b,o+9,none⟩))) w):kQ Try.prog N ops K (⟨d,.fieldAddr 111 x 9,ty,pos,af,none⟩ :: rest) f w:=jS (kY (k:=9) Try.underlying111 rfl rfl mK (by decide) h) k
theorem PU (h:ev f x=.pointer (some ⟨b,o,none⟩)) (k:kQ Try.prog N ops K rest (kI f d (.pointer (some ⟨b,o+10,none⟩))) w):kQ Try.prog N ops K (⟨d,.fieldAddr 111 x 10,ty,pos,af,none⟩ :: rest) f w:=jS (kY (k:=10) Try.underlying111 rfl rfl rY (by decide) h) k
theorem QS (h:ev f x=.pointer (some ⟨b,o,none⟩)) (k:kQ Try.prog N ops K rest (kI f d (.pointer (some ⟨b,o+11,none⟩))) w):kQ Try.prog N ops K (⟨d,.fieldAddr 111 x 11,ty,pos,af,none⟩ :: rest) f w:=jS (kY (k:=11) Try.underlying111 rfl rfl y9 (by decide) h) k
theorem QV (h:ev f x=.pointer (some ⟨b,o,none⟩)) (k:kQ Try.prog N ops K rest (kI f d (.pointer (some ⟨b,o+12,none⟩))) w):kQ Try.prog N ops K (⟨d,.fieldAddr 111 x 12,ty,pos,af,none⟩ :: rest) f w:=jS (kY (k:=12) Try.underlying111 rfl rfl y9 (by decide) h) k
theorem R7 (h:ev f x=.pointer (some ⟨b,o,none⟩)) (k:kQ Try.prog N ops K rest (kI f d (.pointer (some ⟨b,o,none⟩))) w):kQ Try.prog N ops K (⟨d,.fieldAddr 120 x 0,ty,pos,af,none⟩ :: rest) f w:=jS (qN Try.underlying120 rfl rfl mK (by decide) h) k
theorem NN (h:ev f x=.pointer (some ⟨b,o,none⟩)) (k:kQ Try.prog N ops K rest (kI f d (.pointer (some ⟨b,o+1,none⟩))) w):kQ Try.prog N ops K (⟨d,.fieldAddr 120 x 1,ty,pos,af,none⟩ :: rest) f w:=jS (kY (k:=1) Try.underlying120 rfl rfl mK (by decide) h) k
theorem RS (h:ev f x=.pointer (some ⟨b,o,none⟩)) (k:kQ Try.prog N ops K rest (kI f d (.pointer (some ⟨b,o+2,none⟩))) w):kQ Try.prog N ops K (⟨d,.fieldAddr 120 x 2,ty,pos,af,none⟩ :: rest) f w:=jS (kY (k:=2) Try.underlying120 rfl rfl Qw (by decide) h) k
theorem WT (h:ev f x=.pointer (some ⟨b,o,none⟩)) (k:kQ Try.prog N ops K rest (kI f d (.pointer (some ⟨b,o,none⟩))) w):kQ Try.prog N ops K (⟨d,.fieldAddr 89 x 0,ty,pos,af,none⟩ :: rest) f w:=jS (qN Try.underlying89 rfl rfl wm (by decide) h) k
theorem VO (h:ev f x=.pointer (some ⟨b,o,none⟩)) (k:kQ Try.prog N ops K rest (kI f d (.pointer (some ⟨b,o+4,none⟩))) w):kQ Try.prog N ops K (⟨d,.fieldAddr 89 x 1,ty,pos,af,none⟩ :: rest) f w:=jS (kY (k:=4) Try.underlying89 rfl rfl O9 (by decide) h) k
theorem VA (h:ev f x=.pointer (some ⟨b,o,none⟩)) (k:kQ Try.prog N ops K rest (kI f d (.pointer (some ⟨b,o+5,none⟩))) w):kQ Try.prog N ops K (⟨d,.fieldAddr 89 x 2,ty,pos,af,none⟩ :: rest) f w:=jS (kY (k:=5) Try.underlying89 rfl rfl mK (by decide) h) k
theorem VX (h:ev f x=.pointer (some ⟨b,o,none⟩)) (k:kQ Try.prog N ops K rest (kI f d (.pointer (some ⟨b,o+6,none⟩))) w):kQ Try.prog N ops K (⟨d,.fieldAddr 89 x 3,ty,pos,af,none⟩ :: rest) f w:=jS (kY (k:=6) Try.underlying89 rfl rfl mK (by decide) h) k
theorem Vs (h:ev f x=.pointer (some ⟨b,o,none⟩)) (k:kQ Try.prog N ops K rest (kI f d (.pointer (some ⟨b,o+7,none⟩))) w):kQ Try.prog N ops K (⟨d,.fieldAddr 89 x 4,ty,pos,af,none⟩ :: rest) f w:=jS (kY (k:=7) Try.underlying89 rfl rfl mK (by decide) h) k
theorem WG (h:ev f x=.pointer (some ⟨b,o,none⟩)) (k:kQ Try.prog N ops K rest (kI f d (.pointer (some ⟨b,o+8,none⟩))) w):kQ Try.prog N ops K (⟨d,.fieldAddr 89 x 5,ty,pos,af,none⟩ :: rest) f w:=jS (kY (k:=8) Try.underlying89 rfl rfl mK (by decide) h) k
theorem Uy (h:ev f x=.pointer (some ⟨b,o,none⟩)) (k:kQ Try.prog N ops K rest (kI f d (.pointer (some ⟨b,o+9,none⟩))) w):kQ Try.prog N ops K (⟨d,.fieldAddr 89 x 6,ty,pos,af,none⟩ :: rest) f w:=jS (kY (k:=9) Try.underlying89 rfl rfl L9 (by decide) h) k
theorem Ws (h:ev f x=.pointer (some ⟨b,o,none⟩)) (k:kQ Try.prog N ops K rest (kI f d (.pointer (some ⟨b,o+10,none⟩))) w):kQ Try.prog N ops K (⟨d,.fieldAddr 89 x 7,ty,pos,af,none⟩ :: rest) f w:=jS (kY (k:=10) Try.underlying89 rfl rfl Aj (by decide) h) k
theorem Wl (h:ev f x=.pointer (some ⟨b,o,none⟩)) (k:kQ Try.prog N ops K rest (kI f d (.pointer (some ⟨b,o,none⟩))) w):kQ Try.prog N ops K (⟨d,.fieldAddr 30 x 0,ty,pos,af,none⟩ :: rest) f w:=jS (qN Try.underlying30 rfl rfl sM (by decide) h) k
theorem WA (h:ev f x=.pointer (some ⟨b,o,none⟩)) (k:kQ Try.prog N ops K rest (kI f d (.pointer (some ⟨b,o+2,none⟩))) w):kQ Try.prog N ops K (⟨d,.fieldAddr 30 x 1,ty,pos,af,none⟩ :: rest) f w:=jS (kY (k:=2) Try.underlying30 rfl rfl Ut (by decide) h) k
theorem Wy (h:ev f x=.pointer (some ⟨b,o,none⟩)) (k:kQ Try.prog N ops K rest (kI f d (.pointer (some ⟨b,o+3,none⟩))) w):kQ Try.prog N ops K (⟨d,.fieldAddr 30 x 2,ty,pos,af,none⟩ :: rest) f w:=jS (kY (k:=3) Try.underlying30 rfl rfl WQ (by decide) h) k
theorem Ux (h:ev f x=.pointer (some ⟨b,o,none⟩)) (k:kQ Try.prog N ops K rest (kI f d (.pointer (some ⟨b,o,none⟩))) w):kQ Try.prog N ops K (⟨d,.fieldAddr 26 x 0,ty,pos,af,none⟩ :: rest) f w:=jS (qN Try.underlying26 rfl rfl VP (by decide) h) k
theorem Vv (h:ev f x=.pointer (some ⟨b,o,none⟩)) (k:kQ Try.prog N ops K rest (kI f d (.pointer (some ⟨b,o+1,none⟩))) w):kQ Try.prog N ops K (⟨d,.fieldAddr 26 x 1,ty,pos,af,none⟩ :: rest) f w:=jS (kY (k:=1) Try.underlying26 rfl rfl RU (by decide) h) k
theorem WO (h:ev f x=.pointer (some ⟨b,o,none⟩)) (k:kQ Try.prog N ops K rest (kI f d (.pointer (some ⟨b,o,none⟩))) w):kQ Try.prog N ops K (⟨d,.fieldAddr 82 x 0,ty,pos,af,none⟩ :: rest) f w:=jS (qN Try.underlying82 rfl rfl nU (by decide) h) k
theorem WC (h:ev f x=.pointer (some ⟨b,o,none⟩)) (k:kQ Try.prog N ops K rest (kI f d (.pointer (some ⟨b,o+1,none⟩))) w):kQ Try.prog N ops K (⟨d,.fieldAddr 82 x 1,ty,pos,af,none⟩ :: rest) f w:=jS (kY (k:=1) Try.underlying82 rfl rfl mK (by decide) h) k
theorem VL (h:ev f x=.pointer (some ⟨b,o,none⟩)) (k:kQ Try.prog N ops K rest (kI f d (.pointer (some ⟨b,o+2,none⟩))) w):kQ Try.prog N ops K (⟨d,.fieldAddr 82 x 2,ty,pos,af,none⟩ :: rest) f w:=jS (kY (k:=2) Try.underlying82 rfl rfl nT (by decide) h) k
theorem Vq (h:ev f x=.pointer (some ⟨b,o,none⟩)) (k:kQ Try.prog N ops K rest (kI f d (.pointer (some ⟨b,o+3,none⟩))) w):kQ Try.prog N ops K (⟨d,.fieldAddr 82 x 3,ty,pos,af,none⟩ :: rest) f w:=jS (kY (k:=3) Try.underlying82 rfl rfl y9 (by decide) h) k
theorem Vh (h:ev f x=.pointer (some ⟨b,o,none⟩)) (k:kQ Try.prog N ops K rest (kI f d (.pointer (some ⟨b,o,none⟩))) w):kQ Try.prog N ops K (⟨d,.fieldAddr 59 x 0,ty,pos,af,none⟩ :: rest) f w:=jS (qN Try.underlying59 rfl rfl nU (by decide) h) k
theorem WW (h:ev f x=.pointer (some ⟨b,o,none⟩)) (k:kQ Try.prog N ops K rest (kI f d (.pointer (some ⟨b,o+1,none⟩))) w):kQ Try.prog N ops K (⟨d,.fieldAddr 59 x 1,ty,pos,af,none⟩ :: rest) f w:=jS (kY (k:=1) Try.underlying59 rfl rfl mK (by decide) h) k
theorem UJ (h:ev f x=.pointer (some ⟨b,o,none⟩)) (k:kQ Try.prog N ops K rest (kI f d (.pointer (some ⟨b,o+2,none⟩))) w):kQ Try.prog N ops K (⟨d,.fieldAddr 59 x 2,ty,pos,af,none⟩ :: rest) f w:=jS (kY (k:=2) Try.underlying59 rfl rfl mK (by decide) h) k
theorem UQ (h:ev f x=.pointer (some ⟨b,o,none⟩)) (k:kQ Try.prog N ops K rest (kI f d (.pointer (some ⟨b,o+3,none⟩))) w):kQ Try.prog N ops K (⟨d,.fieldAddr 59 x 3,ty,pos,af,none⟩ :: rest) f w:=jS (kY (k:=3) Try.underlying59 rfl rfl mK (by decide) h) k
theorem UH (h:ev f x=.pointer (some ⟨b,o,none⟩)) (k:kQ Try.prog N ops K rest (kI f d (.pointer (some ⟨b,o+4,none⟩))) w):kQ Try.prog N ops K (⟨d,.fieldAddr 59 x 4,ty,pos,af,none⟩ :: rest) f w:=jS (kY (k:=4) Try.underlying59 rfl rfl LW (by decide) h) k
theorem WI (h:ev f x=.pointer (some ⟨b,o,none⟩)) (k:kQ Try.prog N ops K rest (kI f d (.pointer (some ⟨b,o+5,none⟩))) w):kQ Try.prog N ops K (⟨d,.fieldAddr 59 x 5,ty,pos,af,none⟩ :: rest) f w:=jS (kY (k:=5) Try.underlying59 rfl rfl mK (by decide) h) k
theorem U8 (h:ev f x=.pointer (some ⟨b,o,none⟩)) (k:kQ Try.prog N ops K rest (kI f d (.pointer (some ⟨b,o+6,none⟩))) w):kQ Try.prog N ops K (⟨d,.fieldAddr 59 x 6,ty,pos,af,none⟩ :: rest) f w:=jS (kY (k:=6) Try.underlying59 rfl rfl mK (by decide) h) k
theorem WR (h:ev f x=.pointer (some ⟨b,o,none⟩)) (k:kQ Try.prog N ops K rest (kI f d (.pointer (some ⟨b,o,none⟩))) w):kQ Try.prog N ops K (⟨d,.fieldAddr 53 x 0,ty,pos,af,none⟩ :: rest) f w:=jS (qN Try.underlying53 rfl rfl mK (by decide) h) k
theorem UY (h:ev f x=.pointer (some ⟨b,o,none⟩)) (k:kQ Try.prog N ops K rest (kI f d (.pointer (some ⟨b,o+1,none⟩))) w):kQ Try.prog N ops K (⟨d,.fieldAddr 53 x 1,ty,pos,af,none⟩ :: rest) f w:=jS (kY (k:=1) Try.underlying53 rfl rfl mK (by decide) h) k
theorem Ur (h:ev f x=.pointer (some ⟨b,o,none⟩)) (k:kQ Try.prog N ops K rest (kI f d (.pointer (some ⟨b,o+2,none⟩))) w):kQ Try.prog N ops K (⟨d,.fieldAddr 53 x 2,ty,pos,af,none⟩ :: rest) f w:=jS (kY (k:=2) Try.underlying53 rfl rfl UM (by decide) h) k
theorem Wv (h:ev f x=.pointer (some ⟨b,o,none⟩)) (k:kQ Try.prog N ops K rest (kI f d (.pointer (some ⟨b,o,none⟩))) w):kQ Try.prog N ops K (⟨d,.fieldAddr 50 x 0,ty,pos,af,none⟩ :: rest) f w:=jS (qN Try.underlying50 rfl rfl Tx (by decide) h) k
theorem VR (h:ev f x=.pointer (some ⟨b,o,none⟩)) (k:kQ Try.prog N ops K rest (kI f d (.pointer (some ⟨b,o,none⟩))) w):kQ Try.prog N ops K (⟨d,.fieldAddr 39 x 0,ty,pos,af,none⟩ :: rest) f w:=jS (qN Try.underlying39 rfl rfl Ka (by decide) h) k
theorem UN (h:ev f x=.pointer (some ⟨b,o,none⟩)) (k:kQ Try.prog N ops K rest (kI f d (.pointer (some ⟨b,o+1,none⟩))) w):kQ Try.prog N ops K (⟨d,.fieldAddr 39 x 1,ty,pos,af,none⟩ :: rest) f w:=jS (kY (k:=1) Try.underlying39 rfl rfl LW (by decide) h) k
theorem WH (h:ev f x=.pointer (some ⟨b,o,none⟩)) (k:kQ Try.prog N ops K rest (kI f d (.pointer (some ⟨b,o+2,none⟩))) w):kQ Try.prog N ops K (⟨d,.fieldAddr 39 x 2,ty,pos,af,none⟩ :: rest) f w:=jS (kY (k:=2) Try.underlying39 rfl rfl mK (by decide) h) k
theorem VN (h:ev f x=.pointer (some ⟨b,o,none⟩)) (k:kQ Try.prog N ops K rest (kI f d (.pointer (some ⟨b,o+3,none⟩))) w):kQ Try.prog N ops K (⟨d,.fieldAddr 39 x 3,ty,pos,af,none⟩ :: rest) f w:=jS (kY (k:=3) Try.underlying39 rfl rfl Aj (by decide) h) k
theorem VY {t:TypeId} {cs:Array Value} {v:Value} (h:ev f x=.pointer (some ⟨b,o,none⟩)) (hb:mQ w b t cs) (hi:cs[o]?=some v) (k:kQ Try.prog N ops K rest (kI f d v) w):kQ Try.prog N ops K (⟨d,.load 3 x,ty,pos,af,none⟩ :: rest) f w:=jS (jP Try.underlying3 rfl h (hb.cell hi)) k
theorem Xf {t:TypeId} {cs:Array Value} {v:Value} (h:ev f x=.pointer (some ⟨b,o,none⟩)) (hb:mQ w b t cs) (hi:cs[o]?=some v) (k:kQ Try.prog N ops K rest (kI f d v) w):kQ Try.prog N ops K (⟨d,.load 4 x,ty,pos,af,none⟩ :: rest) f w:=jS (jP Try.underlying4 rfl h (hb.cell hi)) k
theorem Xj {t:TypeId} {cs:Array Value} {v:Value} (h:ev f x=.pointer (some ⟨b,o,none⟩)) (hb:mQ w b t cs) (hi:cs[o]?=some v) (k:kQ Try.prog N ops K rest (kI f d v) w):kQ Try.prog N ops K (⟨d,.load 9 x,ty,pos,af,none⟩ :: rest) f w:=jS (jP Try.underlying9 rfl h (hb.cell hi)) k
theorem OJ {t:TypeId} {cs:Array Value} {v:Value} (h:ev f x=.pointer (some ⟨b,o,none⟩)) (hb:mQ w b t cs) (hi:cs[o]?=some v) (k:kQ Try.prog N ops K rest (kI f d v) w):kQ Try.prog N ops K (⟨d,.load 22 x,ty,pos,af,none⟩ :: rest) f w:=jS (jP Try.underlying22 rfl h (hb.cell hi)) k
theorem Oi {t:TypeId} {cs:Array Value} {v:Value} (h:ev f x=.pointer (some ⟨b,o,none⟩)) (hb:mQ w b t cs) (hi:cs[o]?=some v) (k:kQ Try.prog N ops K rest (kI f d v) w):kQ Try.prog N ops K (⟨d,.load 24 x,ty,pos,af,none⟩ :: rest) f w:=jS (jP Try.underlying24 rfl h (hb.cell hi)) k
theorem OO {t:TypeId} {cs:Array Value} {v:Value} (h:ev f x=.pointer (some ⟨b,o,none⟩)) (hb:mQ w b t cs) (hi:cs[o]?=some v) (k:kQ Try.prog N ops K rest (kI f d v) w):kQ Try.prog N ops K (⟨d,.load 27 x,ty,pos,af,none⟩ :: rest) f w:=jS (jP Try.underlying27 rfl h (hb.cell hi)) k
theorem Oj {t:TypeId} {cs:Array Value} {v:Value} (h:ev f x=.pointer (some ⟨b,o,none⟩)) (hb:mQ w b t cs) (hi:cs[o]?=some v) (k:kQ Try.prog N ops K rest (kI f d v) w):kQ Try.prog N ops K (⟨d,.load 36 x,ty,pos,af,none⟩ :: rest) f w:=jS (jP Try.underlying36 rfl h (hb.cell hi)) k
theorem Og {t:TypeId} {cs:Array Value} {v:Value} (h:ev f x=.pointer (some ⟨b,o,none⟩)) (hb:mQ w b t cs) (hi:cs[o]?=some v) (k:kQ Try.prog N ops K rest (kI f d v) w):kQ Try.prog N ops K (⟨d,.load 55 x,ty,pos,af,none⟩ :: rest) f w:=jS (jP Try.underlying55 rfl h (hb.cell hi)) k
theorem Od {t:TypeId} {cs:Array Value} {v:Value} (h:ev f x=.pointer (some ⟨b,o,none⟩)) (hb:mQ w b t cs) (hi:cs[o]?=some v) (k:kQ Try.prog N ops K rest (kI f d v) w):kQ Try.prog N ops K (⟨d,.load 51 x,ty,pos,af,none⟩ :: rest) f w:=jS (jP Try.underlying51 rfl h (hb.cell hi)) k
theorem Ov {t:TypeId} {cs:Array Value} {v:Value} (h:ev f x=.pointer (some ⟨b,o,none⟩)) (hb:mQ w b t cs) (hi:cs[o]?=some v) (k:kQ Try.prog N ops K rest (kI f d v) w):kQ Try.prog N ops K (⟨d,.load 60 x,ty,pos,af,none⟩ :: rest) f w:=jS (jP Try.underlying60 rfl h (hb.cell hi)) k
theorem OU {t:TypeId} {cs:Array Value} {v:Value} (h:ev f x=.pointer (some ⟨b,o,none⟩)) (hb:mQ w b t cs) (hi:cs[o]?=some v) (k:kQ Try.prog N ops K rest (kI f d v) w):kQ Try.prog N ops K (⟨d,.load 80 x,ty,pos,af,none⟩ :: rest) f w:=jS (jP Try.underlying80 rfl h (hb.cell hi)) k
theorem N8 {t:TypeId} {cs:Array Value} {v:Value} (h:ev f x=.pointer (some ⟨b,o,none⟩)) (hb:mQ w b t cs) (hi:cs[o]?=some v) (k:kQ Try.prog N ops K rest (kI f d v) w):kQ Try.prog N ops K (⟨d,.load 86 x,ty,pos,af,none⟩ :: rest) f w:=jS (jP Try.underlying86 rfl h (hb.cell hi)) k
theorem Mx {t:TypeId} {cs:Array Value} {v:Value} (h:ev f x=.pointer (some ⟨b,o,none⟩)) (hb:mQ w b t cs) (hi:cs[o]?=some v) (k:kQ Try.prog N ops K rest (kI f d v) w):kQ Try.prog N ops K (⟨d,.load 87 x,ty,pos,af,none⟩ :: rest) f w:=jS (jP Try.underlying87 rfl h (hb.cell hi)) k
theorem Ik {t:TypeId} {cs:Array Value} {v:Value} (h:ev f x=.pointer (some ⟨b,o,none⟩)) (hb:mQ w b t cs) (hi:cs[o]?=some v) (k:kQ Try.prog N ops K rest (kI f d v) w):kQ Try.prog N ops K (⟨d,.load 109 x,ty,pos,af,none⟩ :: rest) f w:=jS (jP Try.underlying109 rfl h (hb.cell hi)) k
theorem Ip {t:TypeId} {cs:Array Value} {v:Value} (h:ev f x=.pointer (some ⟨b,o,none⟩)) (hb:mQ w b t cs) (hi:cs[o]?=some v) (k:kQ Try.prog N ops K rest (kI f d v) w):kQ Try.prog N ops K (⟨d,.load 117 x,ty,pos,af,none⟩ :: rest) f w:=jS (jP Try.underlying117 rfl h (hb.cell hi)) k
theorem Gp {t:TypeId} {cs:Array Value} {v:Value} (h:ev f x=.pointer (some ⟨b,o,none⟩)) (hb:mQ w b t cs) (hi:cs[o]?=some v) (k:kQ Try.prog N ops K rest (kI f d v) w):kQ Try.prog N ops K (⟨d,.load 118 x,ty,pos,af,none⟩ :: rest) f w:=jS (jP Try.underlying118 rfl h (hb.cell hi)) k
theorem OV {t:TypeId} {cs:Array Value} {v:Value} (h:ev f x=.pointer (some ⟨b,o,none⟩)) (hb:mQ w b t cs) (hi:cs[o]?=some v) (k:kQ Try.prog N ops K rest (kI f d v) w):kQ Try.prog N ops K (⟨d,.load 70 x,ty,pos,af,none⟩ :: rest) f w:=jS (jP Try.underlying70 rfl h (hb.cell hi)) k
theorem aad {A:Option Addr} {n c:Nat} (h:ev f x=.slice A n c) (k:kQ Try.prog N ops K rest (kI f d (V (n:Int))) w):kQ Try.prog N ops K (⟨d,.call { callee:=.builtin .len,args:=#[x],argTypes:=#[22] },ty,pos,af,none⟩ :: rest) f w:=jS (kZ Try.underlying22 h) k
theorem aav {A:Option Addr} {n c:Nat} (h:ev f x=.slice A n c) (k:kQ Try.prog N ops K rest (kI f d (V (n:Int))) w):kQ Try.prog N ops K (⟨d,.call { callee:=.builtin .len,args:=#[x],argTypes:=#[24] },ty,pos,af,none⟩ :: rest) f w:=jS (kZ Try.underlying24 h) k
theorem aaA {A:Option Addr} {n c:Nat} (h:ev f x=.slice A n c) (k:kQ Try.prog N ops K rest (kI f d (V (n:Int))) w):kQ Try.prog N ops K (⟨d,.call { callee:=.builtin .len,args:=#[x],argTypes:=#[27] },ty,pos,af,none⟩ :: rest) f w:=jS (kZ Try.underlying27 h) k
theorem Z7 {A:Option Addr} {n c:Nat} (h:ev f x=.slice A n c) (k:kQ Try.prog N ops K rest (kI f d (V (n:Int))) w):kQ Try.prog N ops K (⟨d,.call { callee:=.builtin .len,args:=#[x],argTypes:=#[36] },ty,pos,af,none⟩ :: rest) f w:=jS (kZ Try.underlying36 h) k
theorem aaB {A:Option Addr} {n c:Nat} (h:ev f x=.slice A n c) (k:kQ Try.prog N ops K rest (kI f d (V (n:Int))) w):kQ Try.prog N ops K (⟨d,.call { callee:=.builtin .len,args:=#[x],argTypes:=#[51] },ty,pos,af,none⟩ :: rest) f w:=jS (kZ Try.underlying51 h) k
theorem aaw {A:Option Addr} {n c:Nat} (h:ev f x=.slice A n c) (k:kQ Try.prog N ops K rest (kI f d (V (n:Int))) w):kQ Try.prog N ops K (⟨d,.call { callee:=.builtin .len,args:=#[x],argTypes:=#[55] },ty,pos,af,none⟩ :: rest) f w:=jS (kZ Try.underlying55 h) k
theorem ZR {A:Option Addr} {n c:Nat} (h:ev f x=.slice A n c) (k:kQ Try.prog N ops K rest (kI f d (V (n:Int))) w):kQ Try.prog N ops K (⟨d,.call { callee:=.builtin .len,args:=#[x],argTypes:=#[60] },ty,pos,af,none⟩ :: rest) f w:=jS (kZ Try.underlying60 h) k
theorem ZW {A:Option Addr} {n c:Nat} (h:ev f x=.slice A n c) (k:kQ Try.prog N ops K rest (kI f d (V (n:Int))) w):kQ Try.prog N ops K (⟨d,.call { callee:=.builtin .len,args:=#[x],argTypes:=#[80] },ty,pos,af,none⟩ :: rest) f w:=jS (kZ Try.underlying80 h) k
theorem Zg {A:Option Addr} {n c:Nat} (h:ev f x=.slice A n c) (k:kQ Try.prog N ops K rest (kI f d (V (n:Int))) w):kQ Try.prog N ops K (⟨d,.call { callee:=.builtin .len,args:=#[x],argTypes:=#[87] },ty,pos,af,none⟩ :: rest) f w:=jS (kZ Try.underlying87 h) k
theorem Yd {A:Option Addr} {n c:Nat} (h:ev f x=.slice A n c) (k:kQ Try.prog N ops K rest (kI f d (V (n:Int))) w):kQ Try.prog N ops K (⟨d,.call { callee:=.builtin .len,args:=#[x],argTypes:=#[109] },ty,pos,af,none⟩ :: rest) f w:=jS (kZ Try.underlying109 h) k
theorem Xm {A:Option Addr} {n c:Nat} (h:ev f x=.slice A n c) (k:kQ Try.prog N ops K rest (kI f d (V (n:Int))) w):kQ Try.prog N ops K (⟨d,.call { callee:=.builtin .len,args:=#[x],argTypes:=#[118] },ty,pos,af,none⟩ :: rest) f w:=jS (kZ Try.underlying118 h) k
theorem aah {A:Option Addr} {n c:Nat} (h:ev f x=.slice A n c) (k:kQ Try.prog N ops K rest (kI f d (V (n:Int))) w):kQ Try.prog N ops K (⟨d,.call { callee:=.builtin .len,args:=#[x],argTypes:=#[70] },ty,pos,af,none⟩ :: rest) f w:=jS (kZ Try.underlying70 h) k
end
section
variable {ρ:Operand→Value} {w w0:World} {d:Option Nat} {ty:TypeId} {pos:String} {af:Array Edge} {g:Option (Nat × Bool)} {x:Operand} {b o:Nat}
theorem R6 (h:ρ x=.pointer (some ⟨b,o,none⟩)):Yl Try.prog ρ (.fieldAddr 138 x 2) d ty pos af g w (.pointer (some ⟨b,o+2,none⟩)):=kY (k:=2) Try.underlying138 rfl rfl mK (by decide) h
theorem M9 (h:ρ x=.pointer (some ⟨b,o,none⟩)):Yl Try.prog ρ (.fieldAddr 111 x 6) d ty pos af g w (.pointer (some ⟨b,o+6,none⟩)):=kY (k:=6) Try.underlying111 rfl rfl mK (by decide) h
theorem Nh (h:ρ x=.pointer (some ⟨b,o,none⟩)):Yl Try.prog ρ (.fieldAddr 111 x 9) d ty pos af g w (.pointer (some ⟨b,o+9,none⟩)):=kY (k:=9) Try.underlying111 rfl rfl mK (by decide) h
theorem Dt (h:ρ x=.pointer (some ⟨b,o,none⟩)):Yl Try.prog ρ (.fieldAddr 111 x 10) d ty pos af g w (.pointer (some ⟨b,o+10,none⟩)):=kY (k:=10) Try.underlying111 rfl rfl rY (by decide) h
theorem Nv (h:ρ x=.pointer (some ⟨b,o,none⟩)):Yl Try.prog ρ (.fieldAddr 120 x 0) d ty pos af g w (.pointer (some ⟨b,o,none⟩)):=qN Try.underlying120 rfl rfl mK (by decide) h
theorem NV (h:ρ x=.pointer (some ⟨b,o,none⟩)):Yl Try.prog ρ (.fieldAddr 120 x 1) d ty pos af g w (.pointer (some ⟨b,o+1,none⟩)):=kY (k:=1) Try.underlying120 rfl rfl mK (by decide) h
theorem Dx (h:ρ x=.pointer (some ⟨b,o,none⟩)):Yl Try.prog ρ (.fieldAddr 120 x 2) d ty pos af g w (.pointer (some ⟨b,o+2,none⟩)):=kY (k:=2) Try.underlying120 rfl rfl Qw (by decide) h
theorem Vw (h:ρ x=.pointer (some ⟨b,o,none⟩)):Yl Try.prog ρ (.fieldAddr 89 x 0) d ty pos af g w (.pointer (some ⟨b,o,none⟩)):=qN Try.underlying89 rfl rfl wm (by decide) h
theorem FU (h:ρ x=.pointer (some ⟨b,o,none⟩)):Yl Try.prog ρ (.fieldAddr 89 x 1) d ty pos af g w (.pointer (some ⟨b,o+4,none⟩)):=kY (k:=4) Try.underlying89 rfl rfl O9 (by decide) h
theorem VH (h:ρ x=.pointer (some ⟨b,o,none⟩)):Yl Try.prog ρ (.fieldAddr 89 x 2) d ty pos af g w (.pointer (some ⟨b,o+5,none⟩)):=kY (k:=5) Try.underlying89 rfl rfl mK (by decide) h
theorem U2 (h:ρ x=.pointer (some ⟨b,o,none⟩)):Yl Try.prog ρ (.fieldAddr 89 x 3) d ty pos af g w (.pointer (some ⟨b,o+6,none⟩)):=kY (k:=6) Try.underlying89 rfl rfl mK (by decide) h
theorem VI (h:ρ x=.pointer (some ⟨b,o,none⟩)):Yl Try.prog ρ (.fieldAddr 89 x 4) d ty pos af g w (.pointer (some ⟨b,o+7,none⟩)):=kY (k:=7) Try.underlying89 rfl rfl mK (by decide) h
theorem Xa (h:ρ x=.pointer (some ⟨b,o,none⟩)):Yl Try.prog ρ (.fieldAddr 89 x 5) d ty pos af g w (.pointer (some ⟨b,o+8,none⟩)):=kY (k:=8) Try.underlying89 rfl rfl mK (by decide) h
theorem Jl (h:ρ x=.pointer (some ⟨b,o,none⟩)):Yl Try.prog ρ (.fieldAddr 89 x 6) d ty pos af g w (.pointer (some ⟨b,o+9,none⟩)):=kY (k:=9) Try.underlying89 rfl rfl L9 (by decide) h
theorem JA (h:ρ x=.pointer (some ⟨b,o,none⟩)):Yl Try.prog ρ (.fieldAddr 89 x 7) d ty pos af g w (.pointer (some ⟨b,o+10,none⟩)):=kY (k:=10) Try.underlying89 rfl rfl Aj (by decide) h
theorem WE (h:ρ x=.pointer (some ⟨b,o,none⟩)):Yl Try.prog ρ (.fieldAddr 59 x 3) d ty pos af g w (.pointer (some ⟨b,o+3,none⟩)):=kY (k:=3) Try.underlying59 rfl rfl mK (by decide) h
theorem PE (h:ρ x=.pointer (some ⟨b,o,none⟩)):Yl Try.prog ρ (.fieldAddr 50 x 0) d ty pos af g w (.pointer (some ⟨b,o,none⟩)):=qN Try.underlying50 rfl rfl Tx (by decide) h
theorem JU {t:TypeId} {cs:Array Value} {v:Value} (h:ρ x=.pointer (some ⟨b,o,none⟩)) (hb:mQ w b t cs) (hi:cs[o]?=some v):Yl Try.prog ρ (.load 3 x) d ty pos af g w v:=jP Try.underlying3 rfl h (hb.cell hi)
theorem YF {t:TypeId} {cs:Array Value} {v:Value} (h:ρ x=.pointer (some ⟨b,o,none⟩)) (hb:mQ w b t cs) (hi:cs[o]?=some v):Yl Try.prog ρ (.load 4 x) d ty pos af g w v:=jP Try.underlying4 rfl h (hb.cell hi)
theorem Uu {t:TypeId} {cs:Array Value} {v:Value} (h:ρ x=.pointer (some ⟨b,o,none⟩)) (hb:mQ w b t cs) (hi:cs[o]?=some v):Yl Try.prog ρ (.load 22 x) d ty pos af g w v:=jP Try.underlying22 rfl h (hb.cell hi)
theorem OG {t:TypeId} {cs:Array Value} {v:Value} (h:ρ x=.pointer (some ⟨b,o,none⟩)) (hb:mQ w b t cs) (hi:cs[o]?=some v):Yl Try.prog ρ (.load 36 x) d ty pos af g w v:=jP Try.underlying36 rfl h (hb.cell hi)
theorem Z6 {t:TypeId} {cs:Array Value} {v:Value} (h:ρ x=.pointer (some ⟨b,o,none⟩)) (hb:mQ w b t cs) (hi:cs[o]?=some v):Yl Try.prog ρ (.load 48 x) d ty pos af g w v:=jP Try.underlying48 rfl h (hb.cell hi)
theorem DF {t:TypeId} {cs:Array Value} {v:Value} (h:ρ x=.pointer (some ⟨b,o,none⟩)) (hb:mQ w b t cs) (hi:cs[o]?=some v):Yl Try.prog ρ (.load 86 x) d ty pos af g w v:=jP Try.underlying86 rfl h (hb.cell hi)
theorem Sr {t:TypeId} {cs:Array Value} {v:Value} (h:ρ x=.pointer (some ⟨b,o,none⟩)) (hb:mQ w b t cs) (hi:cs[o]?=some v):Yl Try.prog ρ (.load 87 x) d ty pos af g w v:=jP Try.underlying87 rfl h (hb.cell hi)
theorem Nf {t:TypeId} {cs:Array Value} {v:Value} (h:ρ x=.pointer (some ⟨b,o,none⟩)) (hb:mQ w b t cs) (hi:cs[o]?=some v):Yl Try.prog ρ (.load 109 x) d ty pos af g w v:=jP Try.underlying109 rfl h (hb.cell hi)
theorem NU {t:TypeId} {cs:Array Value} {v:Value} (h:ρ x=.pointer (some ⟨b,o,none⟩)) (hb:mQ w b t cs) (hi:cs[o]?=some v):Yl Try.prog ρ (.load 118 x) d ty pos af g w v:=jP Try.underlying118 rfl h (hb.cell hi)
end
theorem goB {w0 w:World} {Z G':Nat→Prop} {Lt:List It} {D:List Da} {G R:Prop} (e:Bx w0 w Z G' Lt D) (k:R) (h:Bx w0 w Z G' Lt D→R→G:=by
 intro e k
 repeat (first
  | refine JO ?_
  | refine zV ?_
  | refine LY ?_
  | refine Fx ?_
  | refine oF ?_
  | refine YV rfl ?_
  | refine Zi rfl ?_
  | refine Zm rfl ?_
  | refine Yb rfl ?_
  | refine Xw rfl ?_
  | refine aNl rfl ?_
  | refine YU rfl ?_
  | refine Yv rfl ?_
  | refine XY rfl ?_
  | refine Yc rfl ?_
  | refine Zj rfl ?_
  | refine XM rfl rfl ?_
  | refine X6 rfl rfl ?_
  | refine YN rfl rfl ?_
  | refine XO rfl rfl ?_
  | refine Ze rfl rfl ?_
  | refine Zu rfl rfl ?_
  | refine Xv rfl rfl ?_
  | refine Yp rfl rfl ?_
  | refine YE rfl rfl ?_
  | refine Yi rfl rfl ?_
  | refine XI rfl rfl ?_
  | refine aOr rfl rfl ?_
  | refine YL rfl rfl ?_
  | refine Zc rfl ?_
  | refine Yh rfl rfl ?_
  | refine XA rfl rfl ?_
  | refine Xq rfl ?_
  | refine Xo rfl ?_
  | refine YP rfl ?_
  | refine jL rfl ?_
  | refine jH rfl ?_
  | refine SV rfl ?_
  | refine Tw rfl ?_
  | refine Ro rfl ?_
  | refine RX rfl ?_
  | refine SB rfl ?_
  | refine Rv rfl ?_
  | refine Tq rfl ?_
  | refine Sw rfl ?_
  | refine Ry rfl ?_
  | refine Tg rfl ?_
  | refine Tz rfl ?_
  | refine Sj rfl ?_
  | refine SF rfl ?_
  | refine RB rfl ?_
  | refine Tp rfl ?_
  | refine Tv rfl ?_
  | refine PU rfl ?_
  | refine QS rfl ?_
  | refine QV rfl ?_
  | refine R7 rfl ?_
  | refine NN rfl ?_
  | refine RS rfl ?_
  | refine WT rfl ?_
  | refine VO rfl ?_
  | refine VA rfl ?_
  | refine VX rfl ?_
  | refine Vs rfl ?_
  | refine WG rfl ?_
  | refine Uy rfl ?_
  | refine Ws rfl ?_
  | refine Wl rfl ?_
  | refine WA rfl ?_
  | refine Wy rfl ?_
  | refine Ux rfl ?_
  | refine Vv rfl ?_
  | refine WO rfl ?_
  | refine WC rfl ?_
  | refine VL rfl ?_
  | refine Vq rfl ?_
  | refine Vh rfl ?_
  | refine WW rfl ?_
  | refine UJ rfl ?_
  | refine UQ rfl ?_
  | refine UH rfl ?_
  | refine WI rfl ?_
  | refine U8 rfl ?_
  | refine WR rfl ?_
  | refine UY rfl ?_
  | refine Ur rfl ?_
  | refine Wv rfl ?_
  | refine VR rfl ?_
  | refine UN rfl ?_
  | refine WH rfl ?_
  | refine VN rfl ?_
  | refine aad rfl ?_
  | refine aav rfl ?_
  | refine aaA rfl ?_
  | refine Z7 rfl ?_
  | refine aaB rfl ?_
  | refine aaw rfl ?_
  | refine ZR rfl ?_
  | refine ZW rfl ?_
  | refine Zg rfl ?_
  | refine Yd rfl ?_
  | refine Xm rfl ?_
  | refine aah rfl ?_
  | refine VY rfl (e.bk 0 rfl) rfl ?_
  | refine Xj rfl (e.bk 0 rfl) rfl ?_
  | refine Ik rfl (e.bk 0 rfl) rfl ?_
  | refine N8 rfl (e.bk 0 rfl) rfl ?_
  | refine Ip rfl (e.bk 0 rfl) rfl ?_
  | refine Gp rfl (e.bk 0 rfl) rfl ?_
  | refine OJ rfl (e.bk 0 rfl) rfl ?_
  | refine OU rfl (e.bk 0 rfl) rfl ?_
  | refine Mx rfl (e.bk 0 rfl) rfl ?_
  | refine Xf rfl (e.bk 0 rfl) rfl ?_
  | refine Oi rfl (e.bk 0 rfl) rfl ?_
  | refine OO rfl (e.bk 0 rfl) rfl ?_
  | refine Oj rfl (e.bk 0 rfl) rfl ?_
  | refine Ov rfl (e.bk 0 rfl) rfl ?_
  | refine OV rfl (e.bk 0 rfl) rfl ?_
  | refine Od rfl (e.bk 0 rfl) rfl ?_
  | refine Og rfl (e.bk 0 rfl) rfl ?_
  | refine VY rfl (e.bk 1 rfl) rfl ?_
  | refine Xj rfl (e.bk 1 rfl) rfl ?_
  | refine Ik rfl (e.bk 1 rfl) rfl ?_
  | refine N8 rfl (e.bk 1 rfl) rfl ?_
  | refine Ip rfl (e.bk 1 rfl) rfl ?_
  | refine Gp rfl (e.bk 1 rfl) rfl ?_
  | refine OJ rfl (e.bk 1 rfl) rfl ?_
  | refine OU rfl (e.bk 1 rfl) rfl ?_
  | refine Mx rfl (e.bk 1 rfl) rfl ?_
  | refine Xf rfl (e.bk 1 rfl) rfl ?_
  | refine Oi rfl (e.bk 1 rfl) rfl ?_
  | refine OO rfl (e.bk 1 rfl) rfl ?_
  | refine Oj rfl (e.bk 1 rfl) rfl ?_
  | refine Ov rfl (e.bk 1 rfl) rfl ?_
  | refine OV rfl (e.bk 1 rfl) rfl ?_
  | refine Od rfl (e.bk 1 rfl) rfl ?_
  | refine Og rfl (e.bk 1 rfl) rfl ?_
  | refine VY rfl (e.bk 2 rfl) rfl ?_
  | refine Xj rfl (e.bk 2 rfl) rfl ?_
  | refine Ik rfl (e.bk 2 rfl) rfl ?_
  | refine N8 rfl (e.bk 2 rfl) rfl ?_
  | refine Ip rfl (e.bk 2 rfl) rfl ?_
  | refine Gp rfl (e.bk 2 rfl) rfl ?_
  | refine OJ rfl (e.bk 2 rfl) rfl ?_
  | refine OU rfl (e.bk 2 rfl) rfl ?_
  | refine Mx rfl (e.bk 2 rfl) rfl ?_
  | refine Xf rfl (e.bk 2 rfl) rfl ?_
  | refine Oi rfl (e.bk 2 rfl) rfl ?_
  | refine OO rfl (e.bk 2 rfl) rfl ?_
  | refine Oj rfl (e.bk 2 rfl) rfl ?_
  | refine Ov rfl (e.bk 2 rfl) rfl ?_
  | refine OV rfl (e.bk 2 rfl) rfl ?_
  | refine Od rfl (e.bk 2 rfl) rfl ?_
  | refine Og rfl (e.bk 2 rfl) rfl ?_
  | refine VY rfl (e.bk 3 rfl) rfl ?_
  | refine Xj rfl (e.bk 3 rfl) rfl ?_
  | refine Ik rfl (e.bk 3 rfl) rfl ?_
  | refine N8 rfl (e.bk 3 rfl) rfl ?_
  | refine Ip rfl (e.bk 3 rfl) rfl ?_
  | refine Gp rfl (e.bk 3 rfl) rfl ?_
  | refine OJ rfl (e.bk 3 rfl) rfl ?_
  | refine OU rfl (e.bk 3 rfl) rfl ?_
  | refine Mx rfl (e.bk 3 rfl) rfl ?_
  | refine Xf rfl (e.bk 3 rfl) rfl ?_
  | refine Oi rfl (e.bk 3 rfl) rfl ?_
  | refine OO rfl (e.bk 3 rfl) rfl ?_
  | refine Oj rfl (e.bk 3 rfl) rfl ?_
  | refine Ov rfl (e.bk 3 rfl) rfl ?_
  | refine OV rfl (e.bk 3 rfl) rfl ?_
  | refine Od rfl (e.bk 3 rfl) rfl ?_
  | refine Og rfl (e.bk 3 rfl) rfl ?_
  | refine VY rfl (e.bk 4 rfl) rfl ?_
  | refine Xj rfl (e.bk 4 rfl) rfl ?_
  | refine Ik rfl (e.bk 4 rfl) rfl ?_
  | refine N8 rfl (e.bk 4 rfl) rfl ?_
  | refine Ip rfl (e.bk 4 rfl) rfl ?_
  | refine Gp rfl (e.bk 4 rfl) rfl ?_
  | refine OJ rfl (e.bk 4 rfl) rfl ?_
  | refine OU rfl (e.bk 4 rfl) rfl ?_
  | refine Mx rfl (e.bk 4 rfl) rfl ?_
  | refine Xf rfl (e.bk 4 rfl) rfl ?_
  | refine Oi rfl (e.bk 4 rfl) rfl ?_
  | refine OO rfl (e.bk 4 rfl) rfl ?_
  | refine Oj rfl (e.bk 4 rfl) rfl ?_
  | refine Ov rfl (e.bk 4 rfl) rfl ?_
  | refine OV rfl (e.bk 4 rfl) rfl ?_
  | refine Od rfl (e.bk 4 rfl) rfl ?_
  | refine Og rfl (e.bk 4 rfl) rfl ?_
  | refine VY rfl (e.bk 5 rfl) rfl ?_
  | refine Xj rfl (e.bk 5 rfl) rfl ?_
  | refine Ik rfl (e.bk 5 rfl) rfl ?_
  | refine N8 rfl (e.bk 5 rfl) rfl ?_
  | refine Ip rfl (e.bk 5 rfl) rfl ?_
  | refine Gp rfl (e.bk 5 rfl) rfl ?_
  | refine OJ rfl (e.bk 5 rfl) rfl ?_
  | refine OU rfl (e.bk 5 rfl) rfl ?_
  | refine Mx rfl (e.bk 5 rfl) rfl ?_
  | refine Xf rfl (e.bk 5 rfl) rfl ?_
  | refine Oi rfl (e.bk 5 rfl) rfl ?_
  | refine OO rfl (e.bk 5 rfl) rfl ?_
  | refine Oj rfl (e.bk 5 rfl) rfl ?_
  | refine Ov rfl (e.bk 5 rfl) rfl ?_
  | refine OV rfl (e.bk 5 rfl) rfl ?_
  | refine Od rfl (e.bk 5 rfl) rfl ?_
  | refine Og rfl (e.bk 5 rfl) rfl ?_)
 exact k):G:=h e k
end Go.Proofs.Ytfglbdkfnphjgaa
set_option linter.unusedVariables false
namespace Go.Proofs.Ytfglbdkfnphjgaa
open Go.RowKit Go.Fw
structure sH where
 f:Int
 st:Int
 ws:List (List Int)
inductive Pn (α:Type) where
 | ok (a:α)
 | Ep (v:Int)
 | err (e:Int)
 | rt
def Pn.el {α β:Type} (p:Pn α) (f:α→β) (g:∀ {γ:Type},Pn γ):β ⊕ Unit:=match p with | .ok a=>.inl (f a)|_=>.inr ()
def Pn.up {α β:Type}:Pn α→Pn β
 | .ok _=>.rt
 | .Ep v=>.Ep v
 | .err e=>.err e
 | .rt=>.rt
def Pn.then {α β:Type}:Pn α→(α→Option (Pn β))→Option (Pn β)
 | .ok a,f=>f a
 | .Ep v,_=>some (.Ep v)
 | .err e,_=>some (.err e)
 | .rt,_=>some .rt
def ix? {α:Type} (l:List α) (i:Int):Option α:=if i < 0 then none else l[i.toNat]?
def RO (op x y:Int):Pn Int:=
 if op=6 then .ok (wr (x+y)) else if op=7 then .ok (wr (x - y)) else if op=8 then .ok (wr (x * y))
 else if op=9 then (if y=0 then .Ep 1 else .ok (wr (x.tdiv y))) else if op=10 then (if y=0 then .Ep 1 else .ok (x.tmod y))
 else if op=11 then .ok (Es (· &&& ·) x y) else if op=12 then .ok (Es (· ||| ·) x y) else if op=13 then .ok (Es (· ^^^ ·) x y)
 else if op=14 then .ok (BJ (decide (x < y))) else if op=15 then .ok (BJ (decide (x≤y))) else if op=16 then .ok (BJ (decide (x=y))) else if op=17 then .ok (BJ (decide (x≠y)))
 else .err 4
def R8 (ev:jB→Option (Pn Int)) (ws:List (List Int)) (e:jB):Option (Pn (Nat × Nat)):=
 match ix? ws e.g with
 | none=>some .rt
 | some l=>
  if e.e=2 then some (if 0≤e.c∧e.c < l.length then .ok (e.g.toNat,e.c.toNat) else .rt)
  else if e.e=3 then
   match e.a with
   | []=>some .rt
   | x :: _=>(ev x).bind fun p=>p.then fun i=>some (if i < 0 ∨ (l.length:Int)≤i then .Ep 2 else .ok (e.g.toNat,i.toNat))
  else some (if l=[] then .rt else .ok (e.g.toNat,0))
def Vd (ws:List (List Int)) (p:Nat × Nat):Int:=(ws.getD p.1 []).getD p.2 0
def setW (ws:List (List Int)) (p:Nat × Nat) (v:Int):List (List Int):=ws.set p.1 ((ws.getD p.1 []).set p.2 v)
def CK:Nat→List (List Int)→jB→Option (Pn Int)
 | 0,_,_=>none
 | fu+1,ws,e=>
  if e.e=0 then some (.ok e.c)
  else if e.e=1 ∨ e.e=2 ∨ e.e=3 then (R8 (CK fu ws) ws e).bind fun p=>p.then fun q=>some (.ok (Vd ws q))
  else if e.e=4 then match e.a with
   | []=>some .rt
   | x :: _=>(CK fu ws x).bind fun p=>p.then fun n=>some (.ok (wr (0 - n)))
  else if e.e=5 then match e.a with
   | []=>some .rt
   | x :: _=>(CK fu ws x).bind fun p=>p.then fun n=>some (.ok (BJ (decide (n=0))))
  else match e.a with
   | []=>some .rt
   | x :: l=>(CK fu ws x).bind fun p=>p.then fun n=>match l with
    | []=>some .rt
    | y :: _=>(CK fu ws y).bind fun p=>p.then fun m=>some (RO e.e n m)
def Iw (ev:jB→Option (Pn Int)):List jB→List Int→Option (Pn (List Int))
 | [],acc=>some (.ok acc)
 | x :: l,acc=>(ev x).bind fun p=>p.then fun n=>(app acc [n]).bind fun acc=>Iw ev l acc
structure Sg where
 a:sH
 hist:List kK
 out:List Int
def Rk (ws:List (List Int)):List Int→List rQ→Option (List rQ)
 | [],acc=>some acc
 | v :: l,acc=>(ix? ws v).bind fun r=>(app acc [(⟨v,List.replicate r.length true,r⟩:rQ)]).bind fun acc=>Rk ws l acc
def Zt (vis:Int→Int→Option (List Int)) (g:sH):Option nJ:=
 (vis g.f g.st).bind fun l=>(Rk g.ws l []).bind fun vs=>some ⟨g.f,g.st,vs⟩
def TK (vis:Int→Int→Option (List Int)):List sH→List nJ→Option (List nJ)
 | [],acc=>some acc
 | g :: l,acc=>(Zt vis g).bind fun f=>(app acc [f]).bind fun acc=>TK vis l acc
def event (vis:Int→Int→Option (List Int)) (steps:Nat) (rest:List sH) (s:Sg) (id:Int):Option (Pn Unit × Sg):=
 if steps≤s.hist.length then some (.err 13,s)
 else (TK vis ((⟨s.a.f,id,s.a.ws⟩:sH) :: rest) []).bind fun fs=>some (.ok (),⟨⟨s.a.f,id,s.a.ws⟩,s.hist ++ [⟨fs⟩],s.out⟩)
abbrev Sm:=Sg→jN→Option (Pn (Option Int) × Sg)
def EG (sm:Sm):Sg→List jN→Option (Pn (Option Int) × Sg)
 | s,[]=>some (.ok none,s)
 | s,x :: l=>(sm s x).bind fun (p,s)=>match p with
  | .ok none=>EG sm s l
  | p=>some (p,s)
def EK:List jW→List (List Int)→Option (Pn (List (List Int)))
 | [],acc=>some (.ok acc)
 | v :: l,acc=>if v.a < 0 ∨ 8 < v.a then some (.err 4) else (app acc [List.replicate v.a.toNat 0]).bind fun acc=>EK l acc
def Hl:List Int→Nat→List (List Int)→Pn (List (List Int))
 | [],_,ws=>.ok ws
 | v :: l,i,ws=>match ws[i]? with
  | none=>.rt
  | some []=>.rt
  | some (_ :: r)=>Hl l (i+1) (ws.set i (v :: r))
def AY (sm:List sH→Sm) (src:jQ) (stk:List sH) (f:Int) (args:List Int) (hist:List kK) (out:List Int):Option (Pn Int × List kK × List Int):=
 if 20≤stk.length then some (.err 5,hist,out)
 else match ix? src.b f with
  | none=>some (.rt,hist,out)
  | some vars=>(EK vars []).bind fun p=>match p with
   | .ok ws=>match Hl args 0 ws with
    | .ok ws=>match ix? src.a.b f with
     | none=>some (.rt,hist,out)
     | some fn=>(EG (sm stk) ⟨⟨f,0,ws⟩,hist,out⟩ fn.d).bind fun (p,s)=>some (match p with | .ok r=>.ok (r.getD 0)|p=>p.up,s.hist,s.out)
    | p=>some (p.up,hist,out)
   | p=>some (p.up,hist,out)
def one (ev:jB→Option (Pn Int)) (l:List jB) (s:Sg) {β:Type} (k:Int→Option (Pn β × Sg)):Option (Pn β × Sg):=match l with
 | []=>some (.rt,s)
 | x :: _=>(ev x).bind fun p=>match p with
  | .ok n=>k n
  | p=>some (p.up,s)
def Rj (cond:Sg→Option (Pn Int)) (body:Sg→Option (Pn (Option Int) × Sg)) (ev:Sg→Option (Pn Unit × Sg)):Nat→Sg→Option (Pn (Option Int) × Sg)
 | 0,_=>none
 | n+1,s=>(cond s).bind fun p=>match p with
  | .ok v=>if v=0 then some (.ok none,s) else (body s).bind fun (p,s)=>match p with
   | .ok none=>(ev s).bind fun (p,s)=>match p with
    | .ok _=>Rj cond body ev n s
    | p=>some (p.up,s)
   | p=>some (p,s)
  | p=>some (p.up,s)
def ME (ev:jB→Option (Pn Int)) (ws:List (List Int)) (l:List jB) (s:Sg) {β:Type} (k:Nat × Nat→Option (Pn β × Sg)):Option (Pn β × Sg):=match l with
 | []=>some (.rt,s)
 | x :: _=>(R8 ev ws x).bind fun p=>match p with
  | .ok n=>k n
  | p=>some (p.up,s)
def Zv (ev:jB→Option (Pn Int)):List jB→Option (Pn Int)
 | []=>some .rt
 | e :: _=>ev e
def wdA (ev:jB→Option (Pn Int)) (ws:List (List Int)):List jB→Option (Pn (Nat × Nat))
 | []=>some .rt
 | e :: _=>R8 ev ws e
def AZ (sm:List sH→Sm) (src:jQ) (rest:List sH) (fu:Nat) (s:Sg) (x:jN) (k:Int→Sg→Option (Pn (Option Int) × Sg)):Option (Pn (Option Int) × Sg):=
 (Iw (CK fu s.a.ws) x.a []).bind fun p=>match p with
  | .ok l=>(AY sm src (s.a :: rest) x.i l s.hist s.out).bind fun (p,h,o)=>match p with
   | .ok v=>k v { s with hist:=h,out:=o }
   | p=>some (p.up,{ s with hist:=h,out:=o })
  | p=>some (p.up,s)
def stM (vis:Int→Int→Option (List Int)) (src:jQ) (steps:Nat):Nat→List sH→Sm
 | 0,_,_,_=>none
 | fu+1,rest,s,x=>(event vis steps rest s x.n).bind fun (p,s)=>match p with
  | .ok _=>
   if x.e=1 then match ix? s.a.ws x.g with
    | none=>some (.rt,s)
    | some l=>some (.ok none,{ s with a:={ s.a with ws:=s.a.ws.set x.g.toNat (List.replicate l.length 0) } })
   else if x.e=2 then ME (CK fu s.a.ws) s.a.ws x.c s fun q=>one (CK fu s.a.ws) x.a s fun v=>some (.ok none,{ s with a:={ s.a with ws:=setW s.a.ws q v } })
   else if x.e=3 then AZ (stM vis src steps fu) src rest fu s x fun v s=>if x.c.length=0 then some (.ok none,s) else ME (CK fu s.a.ws) s.a.ws x.c s fun q=>some (.ok none,{ s with a:={ s.a with ws:=setW s.a.ws q v } })
   else if x.e=4 then one (CK fu s.a.ws) x.a s fun v=>EG (stM vis src steps fu rest) s (if v≠0 then x.d else x.h)
   else if x.e=5 then Rj (fun s=>Zv (CK fu s.a.ws) x.a) (fun s=>EG (stM vis src steps fu rest) s x.d) (fun s=>event vis steps rest s x.n) fu s
   else if x.e=6 then
    if x.k≠be then AZ (stM vis src steps fu) src rest fu s x fun v s=>some (.ok (some v),s)
    else one (CK fu s.a.ws) x.a s fun v=>some (.ok (some v),s)
   else if x.e=7 then one (CK fu s.a.ws) x.a s fun v=>some (.Ep v,s)
   else if x.e=8 then (EG (stM vis src steps fu rest) s x.d).bind fun (p,s)=>match p with
    | .Ep v=>match ix? s.a.ws x.g with
     | none=>some (.rt,s)
     | some []=>some (.rt,s)
     | some (_ :: r)=>EG (stM vis src steps fu rest) { s with a:={ s.a with ws:=s.a.ws.set x.g.toNat (v :: r) } } x.h
    | p=>some (p,s)
   else if x.e=9 then one (CK fu s.a.ws) x.a s fun v=>(app s.out [v]).bind fun o=>some (.ok none,{ s with out:=o })
   else if x.e=10 then some (.ok (some 0),s)
   else some (.ok none,s)
  | p=>some (p.up,s)
def window (hist:List kK) (from_ most:Nat):List kK:=(hist.drop from_).take most
def traceM (fu:Nat) (vis:Int→Int→Option (List Int)) (src:jQ) (f:Int) (args:List Int) (steps from_ most:Int):Option (List kK × nL):=
 match ix? src.a.b f with
 | none=>some ([],⟨1,false,0,[]⟩)
 | some fn=>
  if args.length≠fn.a.length ∨ steps < 0 ∨ 5000 < steps ∨ from_ < 0 ∨ most < 0 ∨ 100 < most then some ([],⟨1,false,0,[]⟩)
  else (AY (stM vis src steps.toNat fu) src [] f args [] []).bind fun (p,h,o)=>some (window h from_.toNat most.toNat,match p with
   | .ok v=>⟨0,false,v,o⟩
   | .Ep v=>⟨0,true,v,o⟩
   | .err e=>⟨e,false,0,o⟩
   | .rt=>⟨4,false,0,o⟩)
end Go.Proofs.Ytfglbdkfnphjgaa
