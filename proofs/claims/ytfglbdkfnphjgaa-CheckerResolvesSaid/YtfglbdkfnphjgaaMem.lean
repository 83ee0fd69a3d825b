/- Memory: what operations that read, make or write memory do, and words for what memory holds; over any program. -/
import Derived.Test.YtfglbdkfnphjgaaOps
import Derived.Maps.AppendAt
import Derived.Laws.Tables
import Derived.WalkSpells
import Derived.Lib.SliceRun
import Derived.Laws.BytesString
set_option linter.unusedVariables false
namespace Go.Fw
open Go.RowKit
def TI (P:Program) (t:TypeId) (z:Value) (s b:Nat):Prop:=∃ i,P.info? t=some i∧i.zero=some z∧i.size=s∧i.bytes=b
theorem ti_of {P:Program} {t:TypeId} {z:Value} {s b:Nat} (h:(P.info? t).map (fun i=>(i.zero,i.size,i.bytes))=some (some z,s,b)):TI P t z s b:=by
 cases hi:P.info? t with
 | none=>rw [hi] at h;cases h
 | some i=>
  rw [hi] at h
  simp only [Option.map_some,Option.some.injEq,Prod.mk.injEq] at h
  exact ⟨i,hi,h.1,h.2.1,h.2.2⟩
def aggD:TypeDesc→Bool
 | .struct _ | .array _ _=>true
 | _=>false
def Ext (w w':World):Prop:=Below w.heap.size w w'
theorem Ext.refl (w:World):Ext w w:=Below.refl _ _
theorem Ext.trans {a b c:World} (h:Ext a b) (k:Ext b c):Ext a c:=Below.trans h (Below.mono k h.size)
theorem Ext.alloc {a w:World} (h:Ext a w) (o:Obj):Ext a (w.alloc o):=Below.alloc h h.size o
theorem Ext.drew {a w:World} (h:Ext a w):Ext a w.drew:=Below.drew h
theorem Ext.cell {w w':World} (h:Ext w w') {b o:Nat} (hb:b < w.heap.size):w'.cell? ⟨b,o,none⟩=w.cell? ⟨b,o,none⟩:=Below.cell h hb
theorem Ext.cellS {w w':World} (h:Ext w w') {a:Addr} {v:Value} (hc:w.cell? a=some v):w'.cell? a=some v:=by
 rw [Below.cell h (World.block_lt_of_cell? w a hc)];exact hc
theorem Ext.blk {w w':World} (h:Ext w w') {b:Nat} {o:Obj} (hb:w.heap[b]?=some o):w'.heap[b]?=some o:=by
 rw [Below.block h b (Array.getElem?_eq_some_iff.1 hb).1];exact hb
theorem Ext.le {w w':World} (h:Ext w w'):w.heap.size≤w'.heap.size:=h.size
def Chg (b:Nat) (w w':World):Prop:=w.grownBy w' (some b)
theorem Chg.refl (b:Nat) (w:World):Chg b w w:=⟨rfl,rfl,rfl,Nat.le_refl _,fun _ _ _=>rfl⟩
theorem Chg.trans {b:Nat} {w1 w2 w3:World} (h:Chg b w1 w2) (k:Chg b w2 w3):Chg b w1 w3:=
 ⟨k.os.trans h.os,k.tape.trans h.tape,k.output.trans h.output,Nat.le_trans h.size k.size,fun i hi hne=>(k.block i (Nat.lt_of_lt_of_le hi h.size) hne).trans (h.block i hi hne)⟩
theorem Ext.chg {b:Nat} {w w':World} (h:Ext w w'):Chg b w w':=⟨h.os,h.tape,h.output,h.size,fun i hi _=>h.block i hi⟩
theorem Chg.blk {w w':World} {b k:Nat} {o:Obj} (h:Chg b w w') (hb:w.heap[k]?=some o) (hne:k≠b):w'.heap[k]?=some o:=by
 rw [h.block k (Array.getElem?_eq_some_iff.1 hb).1 (by simpa using hne)];exact hb
theorem Chg.cell {w w':World} {b:Nat} {a:Addr} {v:Value} (h:Chg b w w') (hc:w.cell? a=some v) (hne:a.block≠b):w'.cell? a=some v:=
 World.grownBy.cell h hc (by simpa using hne)
theorem Chg.ext {a w w':World} {b:Nat} (h:Ext a w) (k:Chg b w w') (hb:a.heap.size≤b):Ext a w':=
 Below.grown h k h.size (fun i hi=>by simp at hi;omega)
theorem Chg.setCell (w:World) (b o:Nat) (v:Value):Chg b w (w.setCell ⟨b,o,none⟩ v):=
 ⟨rfl,rfl,rfl,by simp,fun k hk hne=>Below.heap_setCell w _ v k (by simpa using hne)⟩
theorem Chg.setRow (w:World) (b:Nat) (cs:Array Value):Chg b w (w.setRow b cs):=
 ⟨rfl,rfl,rfl,by simp,fun k hk hne=>setRow_other w b k cs (by simpa using hne)⟩
def Blk (w:World) (b:Nat) (t:TypeId) (cs:Array Value):Prop:=w.heap[b]?=some (.cells cs t (0,0))
theorem Blk.lt {w:World} {b:Nat} {t:TypeId} {cs:Array Value} (h:Blk w b t cs):b < w.heap.size:=(Array.getElem?_eq_some_iff.1 h).1
theorem Blk.cell {w:World} {b:Nat} {t:TypeId} {cs:Array Value} (h:Blk w b t cs) {i:Nat} {v:Value} (hv:cs[i]?=some v):w.cell? ⟨b,i,none⟩=some v:=by
 rw [cell_of_row w b i cs t (0,0) h];exact hv
theorem Blk.new (w:World) (t:TypeId) (cs:Array Value):Blk (w.alloc (.cells cs t)) w.heap.size t cs:=heap_alloc_new w _
theorem Blk.ext {w w':World} {b:Nat} {t:TypeId} {cs:Array Value} (h:Blk w b t cs) (e:Ext w w'):Blk w' b t cs:=Ext.blk e h
theorem Blk.chg {w w':World} {b k:Nat} {t:TypeId} {cs:Array Value} (h:Blk w b t cs) (e:Chg k w w') (hne:b≠k):Blk w' b t cs:=Chg.blk e h hne
theorem Blk.set {w:World} {b:Nat} {t:TypeId} {cs:Array Value} (h:Blk w b t cs) (i:Nat) (v:Value):Blk (w.setCell ⟨b,i,none⟩ v) b t (cs.setIfInBounds i v):=by
 unfold Blk at h ⊢;simp [World.setCell,Array.getElem?_modify,h]
theorem Blk.setRow {w:World} {b:Nat} {t:TypeId} {cs:Array Value} (h:Blk w b t cs) (ns:Array Value):Blk (w.setRow b ns) b t ns:=setRow_heap w b cs ns t (0,0) h
theorem Blk.ne {w:World} {b k:Nat} {t u:TypeId} {cs ds:Array Value} (h:Blk w b t cs) (h':Blk w k u ds) (hne:t≠u):b≠k:=by
 rintro rfl;unfold Blk at h h';rw [h] at h';injection h' with h';injection h' with _ ht;exact hne ht
section
variable {P:Program} {w:World} {ρ:Operand→Value} {d:Option Nat} {ty:TypeId} {pos:String} {af:Array Edge} {g:Option (Nat × Bool)}
theorem xLoad {t:TypeId} {x:Operand} {D:TypeDesc} {a:Addr} {v:Value} (hu:P.underlying t=some D) (hD:aggD D=false) (hx:ρ x=.pointer (some a)) (hc:w.cell? a=some v) :
  Yl P ρ (.load t x) d ty pos af g w v:=by
 have hagg:(isAgg t).run P w=.ok false w:=by
  unfold isAgg
  rw [Sem.run_bind,run_underlying hu w]
  cases D <;> simp_all [aggD]
 simp [Yl,execOp,hx,Instr.loadAt,Instr.sureAddr,loadVar,Sem.run_bind,hagg,hc]
theorem xLoadS {t:TypeId} {x:Operand} {D:TypeDesc} {b o:Nat} {z:Value} {s by_:Nat} (cs:List Value) (hu:P.underlying t=some D) (hD:aggD D=true) (hi:TI P t z s by_) (hs:s=cs.length)
  (hx:ρ x=.pointer (some ⟨b,o,none⟩)) (hc:∀ j v,cs[j]?=some v→w.cell? ⟨b,o+j,none⟩=some v):Yl P ρ (.load t x) d ty pos af g w (.agg cs.toArray):=by
 have hagg:(isAgg t).run P w=.ok true w:=by
  unfold isAgg
  rw [Sem.run_bind,run_underlying hu w]
  cases D <;> simp_all [aggD]
 obtain ⟨i,hi1,hi2,hi3,hi4⟩:=hi
 have hl:(loadCells ⟨b,o,none⟩ cs.length).run P w=.ok cs.toArray w:=
  run_loadCells_list (P:=P) w ⟨b,o,none⟩ cs (fun j v hv=>by rw [Addr.add_lit];exact hc j v hv)
 simp [Yl,execOp,hx,Instr.loadAt,Instr.sureAddr,loadVar,Sem.run_bind,hagg,sizeOf,typeInfo,hi1,hi3,hs,hl]
theorem xIdx {t e:TypeId} {x y:Operand} {b o n c:Nat} {k:IntKind} {i:Int} {z:Value} {s by_:Nat} (j:Nat) (ht:P.underlying t=some (.slice e)) (he:TI P e z s by_) (hx:ρ x=.slice (some ⟨b,o,none⟩) n c)
  (hy:ρ y=.int k i) (hi:i=(j:Int)) (hj:j < n):Yl P ρ (.indexAddr t x y) d ty pos af g w (.pointer (some ⟨b,o+j * s,none⟩)):=by
 subst hi
 obtain ⟨i,hi1,hi2,hi3,hi4⟩:=he
 have h2:(0:Int)≤j∧(j:Int) < n:=by omega
 simp [Yl,execOp,hx,hy,Instr.indexAt,run_underlying ht,asIntOf,sizeOf,typeInfo,hi1,hi3,Addr.add_lit,hj]
theorem xFld {t:TypeId} {x:Operand} {fs:Array Field} {n b o k:Nat} {f:Field} {z:Value} {s by_:Nat} (ht:P.underlying t=some (.struct fs)) (hf:fs[n]?=some f) (hk:f.offset=k) (hi:TI P f.type z s by_) (hs:s≠0)
  (hx:ρ x=.pointer (some ⟨b,o,none⟩)):Yl P ρ (.fieldAddr t x n) d ty pos af g w (.pointer (some ⟨b,o+k,none⟩)):=by
 obtain ⟨i,hi1,hi2,hi3,hi4⟩:=hi
 simp [Yl,execOp,hx,Instr.fieldAt,run_underlying ht,hf,Instr.sureAddr,fieldPlace,sizeOf,typeInfo,hi1,hi3,hs,Addr.add_lit,hk]
theorem xFld0 {t:TypeId} {x:Operand} {fs:Array Field} {n b o:Nat} {f:Field} {z:Value} {s by_:Nat} (ht:P.underlying t=some (.struct fs)) (hf:fs[n]?=some f) (hk:f.offset=0) (hi:TI P f.type z s by_) (hs:s≠0)
  (hx:ρ x=.pointer (some ⟨b,o,none⟩)):Yl P ρ (.fieldAddr t x n) d ty pos af g w (.pointer (some ⟨b,o,none⟩)):=
 xFld (P:=P) (w:=w) (d:=d) (ty:=ty) (pos:=pos) (af:=af) (g:=g) ht hf hk hi hs hx
abbrev Mk (P:Program) (ρ:Operand→Value) (op:Op) (d:Option Nat) (ty:TypeId) (pos:String) (af:Array Edge) (g:Option (Nat × Bool)) (w:World) (v:Value) (o:Obj):Prop:=
 (execOp ρ ⟨d,op,ty,pos,af,g⟩).run P w=.ok (.value v) (w.alloc o)
theorem mAlloc {t:TypeId} {z:Value} {s by_:Nat} (hi:TI P t z s by_):Mk P ρ (.alloc t) d ty pos af g w (.pointer (some ⟨w.heap.size,0,none⟩)) (.cells z.cells t):=by
 obtain ⟨i,hi1,hi2,hi3,hi4⟩:=hi
 simp [Mk,execOp,Instr.alloc,zeroValue,typeInfo,hi1,hi2,newVar,newRow]
theorem mBox {t:TypeId} {x:Operand} {v:Value} (hx:ρ x=v):Mk P ρ (.box t x) d ty pos af g w (.pointer (some ⟨w.heap.size,0,none⟩)) (.cells v.cells t):=by
 simp [Mk,execOp,Instr.box,newVar,newRow,hx]
abbrev St (P:Program) (ρ:Operand→Value) (op:Op) (d:Option Nat) (ty:TypeId) (pos:String) (af:Array Edge) (g:Option (Nat × Bool)) (w w':World):Prop:=
 (execOp ρ ⟨d,op,ty,pos,af,g⟩).run P w=.ok .skip w'
end
def Cells (w:World) (b o:Nat) (xs:List Value):Prop:=∀ j v,xs[j]?=some v→w.cell? ⟨b,o+j,none⟩=some v
theorem Cells.ext {w w':World} {b o:Nat} {xs:List Value} (h:Cells w b o xs) (e:Ext w w'):Cells w' b o xs:=fun j v hv=>e.cellS (h j v hv)
theorem Cells.chg {w w':World} {b o k:Nat} {xs:List Value} (h:Cells w b o xs) (e:Chg k w w') (hne:b≠k):Cells w' b o xs:=fun j v hv=>e.cell (h j v hv) hne
def Sl (w:World) (B size:Nat) (A:Option Addr) (n:Nat) (xs:List Value):Prop:=
 xs.length=n * size∧(0 < n→∃ b o,A=some ⟨b,o,none⟩∧b < B∧Cells w b o xs)
theorem Sl.ext {w w':World} {B size n:Nat} {A:Option Addr} {xs:List Value} (h:Sl w B size A n xs) (e:Ext w w'):Sl w' B size A n xs:=
 ⟨h.1,fun hn=>by obtain ⟨b,o,h1,h2,h3⟩:=h.2 hn;exact ⟨b,o,h1,h2,h3.ext e⟩⟩
theorem Sl.chg {w w':World} {B size n k:Nat} {A:Option Addr} {xs:List Value} (h:Sl w B size A n xs) (e:Chg k w w') (hk:B≤k):Sl w' B size A n xs:=
 ⟨h.1,fun hn=>by obtain ⟨b,o,h1,h2,h3⟩:=h.2 hn;exact ⟨b,o,h1,h2,h3.chg e (by omega)⟩⟩
theorem Sl.up {w:World} {B B' size n:Nat} {A:Option Addr} {xs:List Value} (h:Sl w B size A n xs) (hB:B≤B'):Sl w B' size A n xs:=
 ⟨h.1,fun hn=>by obtain ⟨b,o,h1,h2,h3⟩:=h.2 hn;exact ⟨b,o,h1,by omega,h3⟩⟩
theorem Sl.nil {w:World} {B size:Nat} {A:Option Addr}:Sl w B size A 0 []:=⟨by simp,fun h=>by omega⟩
def Own (w:World) (base:Nat) (e:TypeId) (size:Nat) (A:Option Addr) (n c:Nat) (xs:List Value):Prop:=w.ownsRow base e size (.slice A n c) n xs
theorem Own.nil (w:World) (base:Nat) (e:TypeId) (size:Nat):Own w base e size none 0 0 []:=World.ownsRow_nil w base e size
theorem Own.blk {w:World} {base:Nat} {e:TypeId} {size:Nat} {A:Option Addr} {n c:Nat} {xs:List Value} (h:Own w base e size A n c xs) :
   (A=none∧n=0∧c=0∧xs=[]) ∨ ∃ g cur,A=some ⟨g,0,none⟩∧base≤g∧Blk w g e cur∧n≤c∧c≤maxLen∧cur.size=c * size∧cur.toList.take (n * size)=xs:=by
 obtain ⟨h1,h2 | ⟨g,cap,cur,h3,h4,h5,h6,h7,h8,h9⟩⟩:=h
 · obtain ⟨h2,hn⟩:=h2
   injection h2 with a b cc
   subst hn
   exact .inl ⟨a,rfl,cc,List.eq_nil_of_length_eq_zero (by simpa using h1)⟩
 · injection h3 with a b cc
   subst cc
   exact .inr ⟨g,cur,a,h4,h5,h6,h7,h8,h9⟩
theorem Own.len {w:World} {base:Nat} {e:TypeId} {size:Nat} {A:Option Addr} {n c:Nat} {xs:List Value} (h:Own w base e size A n c xs):xs.length=n * size:=h.1
theorem Own.sl {w:World} {base:Nat} {e:TypeId} {size:Nat} {A:Option Addr} {n c:Nat} {xs:List Value} (h:Own w base e size A n c xs):Sl w w.heap.size size A n xs:=by
 refine ⟨h.1,fun hn=>?_⟩
 rcases h.blk with ⟨_,h0,_,_⟩|⟨g,cur,h1,h2,h3,h4,h5,h6,h7⟩
 · omega
 · refine ⟨g,0,h1,h3.lt,fun j v hv=>?_⟩
   rw [Nat.zero_add]
   refine h3.cell ?_
   subst h7
   rw [List.getElem?_take] at hv
   split at hv
   · simpa using hv
   · cases hv
theorem Own.ext {w w':World} {base:Nat} {e:TypeId} {size:Nat} {A:Option Addr} {n c:Nat} {xs:List Value} (h:Own w base e size A n c xs) (k:Ext w w'):Own w' base e size A n c xs:=
 World.ownsRow.kept (row:=none) h ⟨k.os,k.tape,k.output,k.size,fun i hi _=>k.block i hi⟩ (by
  cases hb:(Value.slice A n c).ownBlock with
  | none=>exact .inl rfl
  | some b=>exact .inr (by simp))
def rowOf (A:Option Addr):Option Nat:=A.map (·.block)
theorem rowOf_own (A:Option Addr) (n c:Nat):(Value.slice A n c).ownBlock=rowOf A:=by cases A <;> rfl
theorem Own.kept {w w':World} {base:Nat} {e:TypeId} {size:Nat} {A:Option Addr} {n c:Nat} {xs:List Value} {row:Option Nat} (h:Own w base e size A n c xs) (k:w.grownBy w' row) (hne:rowOf A=none ∨ rowOf A≠row):Own w' base e size A n c xs:=
 World.ownsRow.kept h k (by rw [rowOf_own];exact hne)
theorem Own.mono {w:World} {base base':Nat} {e:TypeId} {size:Nat} {A:Option Addr} {n c:Nat} {xs:List Value} (h:Own w base e size A n c xs) (hb:base'≤base):Own w base' e size A n c xs:=
 ⟨h.1,h.2.imp id fun ⟨g,cap,cur,h3,h4,r⟩=>⟨g,cap,cur,h3,by omega,r⟩⟩
theorem Own.row {w:World} {base:Nat} {e:TypeId} {size:Nat} {A:Option Addr} {n c:Nat} {xs:List Value} (h:Own w base e size A n c xs):∀ k,rowOf A=some k→base≤k∧k < w.heap.size:=by
 have:=World.ownsRow.lt h
 rw [rowOf_own] at this
 exact this
theorem Own.apart {w:World} {base base':Nat} {e e':TypeId} {size size':Nat} {A A':Option Addr} {n n' c c':Nat} {xs xs':List Value} (h:Own w base e size A n c xs) (h':Own w base' e' size' A' n' c' xs') (hne:e≠e') :
   rowOf A=none ∨ rowOf A≠rowOf A':=by
 rcases h.blk with ⟨h1,_⟩|⟨g,cur,h1,h2,h3,_⟩
 · subst h1;exact .inl rfl
 · rcases h'.blk with ⟨h1',_⟩|⟨g',cur',h1',h2',h3',_⟩
   · subst h1 h1';exact .inr (by simp [rowOf])
   · subst h1 h1'
     refine .inr ?_
     simp only [rowOf,Option.map_some,ne_eq,Option.some.injEq]
     exact h3.ne h3' hne
theorem Own.cell {w:World} {base:Nat} {e:TypeId} {size g n c:Nat} {xs:List Value} {j:Nat} {v:Value} (h:Own w base e size (some ⟨g,0,none⟩) n c xs) (hv:xs[j]?=some v):w.cell? ⟨g,j,none⟩=some v:=by
 have hj:j < n * size:=by
  rw [← h.1]
  rcases Nat.lt_or_ge j xs.length with h' | h'
  · exact h'
  · rw [List.getElem?_eq_none h'] at hv;cases hv
 rw [World.ownsRow.cellAt h j hj];exact hv
theorem Own.set {w:World} {base:Nat} {e:TypeId} {size g n c:Nat} {xs:List Value} (h:Own w base e size (some ⟨g,0,none⟩) n c xs) (j:Nat) (u:Value):Own (w.setCell ⟨g,j,none⟩ u) base e size (some ⟨g,0,none⟩) n c (xs.set j u):=(World.ownsRow.stored h j u).1
theorem Own.adr {w:World} {base:Nat} {e:TypeId} {size n c:Nat} {A:Option Addr} {xs:List Value} (h:Own w base e size A n c xs) (hn:0 < n):∃ g,A=some ⟨g,0,none⟩:=by
 rcases h.blk with ⟨_,h0,_⟩|⟨g,_,hA,_⟩
 · omega
 · exact ⟨g,hA⟩
theorem Own.cap {w:World} {base:Nat} {e:TypeId} {size n c:Nat} {A:Option Addr} {xs:List Value} (h:Own w base e size A n c xs):n≤c∧c≤maxLen:=by
 rcases h.blk with ⟨_,h0,h1,_⟩|⟨g,_,hA,_,_,h2,h3,_⟩
 · subst h0 h1;exact ⟨Nat.le_refl _,Nat.zero_le _⟩
 · exact ⟨h2,h3⟩
def To (P:Program) (ρ:Operand→Value) (o:Oper) (w:World) (R:Value→World→Prop):Prop:=∃ v w',(execOp ρ o).run P w=.ok (.value v) w'∧R v w'
theorem sTo {P:Program} {N:Nat} {ops:Array Oper} {K:Fr→World→Prop} {rest:List Oper} {f:Fr} {w:World} {d:Option Nat} {op:Op} {ty:TypeId} {pos:String} {af:Array Edge} {R:Value→World→Prop}
  (h:To P (ev f) ⟨d,op,ty,pos,af,none⟩ w R) (k:∀ v w',R v w'→WPs P N ops K rest (updO f d v) w'):WPs P N ops K (⟨d,op,ty,pos,af,none⟩ :: rest) f w:=by
 obtain ⟨v,w',h1,h2⟩:=h
 exact sRun h1 (k v w' h2)
section
variable {P:Program} {w:World} {ρ:Operand→Value} {d:Option Nat} {ty:TypeId} {pos:String} {af:Array Edge} {g:Option (Nat × Bool)}
theorem run_append_of_none (base:Nat) (t ty e:TypeId) (i:TypeInfo) (size:Nat) (ht:P.underlying t=some (.slice e)) (hi:P.info? e=some i)
   (v:Value) (n:Nat) (xs:List Value) (hown:w.ownsRow base e size v n xs) (c:Nat):(Builtin.append_ #[t,t] ty #[v,.slice none 0 c]).run P w=.ok v w:=by
 rcases hown.2 with ⟨rfl,rfl⟩|⟨g,cap,cur,rfl,_,_,hnc,_⟩
 · simp [Builtin.append_,run_underlying ht,sizeOf,typeInfo,hi,Builtin.lenOf,Builtin.firstCells]
 · simp [Builtin.append_,run_underlying ht,sizeOf,typeInfo,hi,Builtin.lenOf,Builtin.firstCells,hnc,storeCells]
theorem aAppend {t e:TypeId} {s x:Operand} {z:Value} {size by_:Nat} (base k:Nat) {A:Option Addr} {n c:Nat} {xs:List Value} {A':Option Addr} {m c':Nat} {B:Nat} {ys:List Value}
  (ht:P.underlying t=some (.slice e)) (hi:TI P e z size by_) (hz:z.cells.size=size) (h0:0 < size) (hs:ρ s=.slice A n c) (hx:ρ x=.slice A' m c')
  (ho:Own w base e size A n c xs) (hy:Sl w B size A' m ys) (h1:∀ u ∈ ys,u.oneCell'=true) (hb:base≤w.heap.size) (hm:n+m≤9223372036854775807) (hby:(n+m) * by_≤140737488355328) (hk:n+m=k) :
  To P ρ ⟨d,.call { callee:=.builtin .append,args:=#[s,x],argTypes:=#[t,t] },ty,pos,af,g⟩ w fun v w'=>
    ∃ A2 c2,v=.slice A2 k c2∧Own w' base e size A2 k c2 (xs ++ ys)∧w.grownBy w' (rowOf A)∧(rowOf A2=rowOf A ∨ rowOf A2=some w.heap.size):=by
 subst hk
 obtain ⟨i,hi1,hi2,hi3,hi4⟩:=hi
 have key:∃ v' w',(Builtin.append_ #[t,t] ty #[.slice A n c,.slice A' m c']).run P w=.ok v' w'∧w'.ownsRow base e size v' (n+m) (xs ++ ys)∧w.grownBy w' (rowOf A)∧(v'.ownBlock=rowOf A ∨ v'.ownBlock=some w.heap.size):=by
  have hm63:n+m≤maxLen:=by simp only [maxLen];omega
  rcases Nat.eq_zero_or_pos m with hm0 | hm0
  · subst hm0
    have hy0:ys=[]:=List.eq_nil_of_length_eq_zero (by simpa using hy.1)
    subst hy0
    cases A' with
    | none=>exact ⟨_,w,run_append_of_none base t ty e i size ht hi1 _ n xs ho c',by unfold Own at ho;simpa using ho,⟨rfl,rfl,rfl,Nat.le_refl _,fun _ _ _=>rfl⟩,.inl (rowOf_own ..)⟩
    | some a=>
     obtain ⟨v',w',h2,h3,h4,_,h5⟩:=run_append_own_at (P:=P) w base t ty e i z size by_ ht hi1 hi2 hi3 hi4 hz h0 _ n xs ho a 0 c' [] (by simp) (by simp) (by simp) hm63 hby hb
     rw [rowOf_own] at h4 h5
     exact ⟨v',w',h2,h3,h4,h5⟩
  · obtain ⟨b,o,rfl,_,hc⟩:=hy.2 hm0
    obtain ⟨v',w',h2,h3,h4,_,h5⟩:=run_append_own_at (P:=P) w base t ty e i z size by_ ht hi1 hi2 hi3 hi4 hz h0 _ n xs ho ⟨b,o,none⟩ m c' ys hy.1 (fun j u hu=>by rw [Addr.add_lit];exact hc j u hu) h1 hm63 hby hb
    rw [rowOf_own] at h4 h5
    exact ⟨v',w',h2,h3,h4,h5⟩
 obtain ⟨v',w',h2,h3,h4,h5⟩:=key
 have hsl:∃ A2 c2,v'=.slice A2 (n+m) c2:=by
  rcases h3.2 with ⟨h6,h7⟩|⟨g',cap,cur,h6,_⟩
  · exact ⟨none,0,by rw [h6,h7]⟩
  · exact ⟨_,_,h6⟩
 obtain ⟨A2,c2,rfl⟩:=hsl
 rw [rowOf_own] at h5
 exact ⟨_,w',by simp [execOp,resolve,invoke,builtin,hs,hx,h2],A2,c2,rfl,h3,h4,h5⟩
end
theorem Blk.sl {w:World} {b n size:Nat} {t:TypeId} {cs:Array Value} (h:Blk w b t cs) (hs:cs.size=n * size):Sl w w.heap.size size (some ⟨b,0,none⟩) n cs.toList:=
 ⟨by simpa using hs,fun _=>⟨b,0,rfl,h.lt,fun j v hv=>by rw [Nat.zero_add];exact h.cell (by simpa using hv)⟩⟩
theorem Blk.own {w:World} {b n size base:Nat} {t:TypeId} {cs:Array Value} (h:Blk w b t cs) (hb:base≤b) (hn:n≤maxLen) (hs:cs.size=n * size):Own w base t size (some ⟨b,0,none⟩) n n cs.toList:=
 ⟨by simpa using hs,.inr ⟨b,n,cs,rfl,hb,h,Nat.le_refl _,hn,hs,by rw [← hs];simp [List.take_of_length_le]⟩⟩
section
variable {P:Program} {N:Nat} {ops:Array Oper} {K:Fr→World→Prop} {rest:List Oper} {f:Fr} {w:World} {d:Option Nat} {ty:TypeId} {pos:String} {af:Array Edge}
end
theorem Blk.cells {w:World} {b:Nat} {t:TypeId} {cs:Array Value} (h:Blk w b t cs):Cells w b 0 cs.toList:=fun j v hv=>by rw [Nat.zero_add];exact h.cell (by simpa using hv)
def strOf (bs:List Int):ByteArray:=bs.foldl (fun r n=>r.push (UInt8.ofNat n.toNat)) ByteArray.empty
section
variable {P:Program} {w:World} {ρ:Operand→Value} {d:Option Nat} {ty:TypeId} {pos:String} {af:Array Edge} {g:Option (Nat × Bool)}
theorem xStr {t s e:TypeId} {x:Operand} {A:Option Addr} {n c B:Nat} {bs:List Int} (ht:P.underlying t=some (.slice e)) (he:P.underlying e=some (.int .u8)) (hs:P.underlying s=some .string) (hx:ρ x=.slice A n c) (h:Sl w B 1 A n (bs.map (Value.int .u8))) :
  Yl P ρ (.convert t s x) d ty pos af g w (.string (strOf bs)):=by
 have hl:bs.length=n:=by have:=h.1;simpa using this
 have key:(Conv.bytesToString (.slice A n c)).run P w=.ok (.string (strOf bs)) w:=by
  cases A with
  | none=>
   have hn:n=0:=by
    rcases Nat.eq_zero_or_pos n with h0 | h0
    · exact h0
    · obtain ⟨b,o,h1,_⟩:=h.2 h0;cases h1
   have hb:bs=[]:=List.eq_nil_of_length_eq_zero (by omega)
   subst hb
   simp [Conv.bytesToString,strOf]
  | some a=>
   subst hl
   have hc:∀ j v,(bs.map (Value.int .u8))[j]?=some v→w.cell? (a.add j)=some v:=by
    intro j v hv
    have hj:j < bs.length:=by
      rcases Nat.lt_or_ge j bs.length with h0 | h0
      · exact h0
      · rw [List.getElem?_eq_none (by simpa using h0)] at hv;cases hv
    obtain ⟨b,o,h1,_,h3⟩:=h.2 (by omega)
    injection h1 with h1
    subst h1
    rw [Addr.add_lit]
    exact h3 j v hv
   exact run_bytesToString w a bs.length c bs (by
    have:=run_loadCells_list (P:=P) w a (bs.map (Value.int .u8)) hc
    simpa using this)
 have hcv:=run_convert_bytes_string (P:=P) w t s e A n c ht he hs
 rw [key] at hcv
 simp [Yl,execOp,hx,hcv]
end
section
variable {P:Program} {N:Nat} {ops:Array Oper} {S:World→Prop} {T:List Nat} {K:Fr→World→Prop} {f:Fr} {w:World} {n:Nat} {L:Array Bool}
end
end Go.Fw
