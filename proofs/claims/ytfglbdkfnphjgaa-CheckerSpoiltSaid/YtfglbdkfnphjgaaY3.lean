/- The maker of programs answers for any tape: expressions. -/
import Derived.Test.YtfglbdkfnphjgaaY2
import Derived.Test.YtfglbdkfnphjgaaLc
set_option linter.unusedVariables false
set_option linter.unusedSimpArgs false
namespace Go.Proofs.Ytfglbdkfnphjgaa
open Go.RowKit Go.Fw
structure TQ (T:jR):Prop where
 lo:0≤T.a
 hi:T.a≤T.l.length
 len:T.l.length≤1000
def GE:Nat→jL→Prop
 | 0,_=>False
 | d+1,x=>(x.a.size≤4∧x.c.size≤4∧0≤x.d∧x.d≤999999999999999999)∧x.b.length≤2∧∀ y ∈ x.b,GE d y
theorem GE.mono:∀ {n m:Nat} {x:jL},GE n x→n≤m→GE m x
 | 0,_,_,h,_=>h.elim
 | n+1,0,_,h,k=>by omega
 | n+1,m+1,x,h,k=>⟨h.1,h.2.1,fun y hy=>GE.mono (h.2.2 y hy) (by omega)⟩
structure MP (M:lK):Prop where
 b:M.b.length=4∧∀ p ∈ M.b,0≤p∧p≤4
 f:0≤M.f∧M.f < M.e∧M.e≤4
 ns:(M.a.length:Int)+M.h≤40∧∀ n ∈ M.a,n.size≤4
 np:(M.d.length:Int)+M.h≤40∧∀ n ∈ M.d,n.size≤4
 na:(M.c.length:Int)+M.h≤40∧∀ n ∈ M.c,n.size≤4
 c:0≤M.g∧M.g+M.h≤22
 l:0≤M.h
theorem O1 {fu:Nat} {n k:Int} (h1:1≤k) (h2:k≤1000000000):kI (yK fu n k) (fun v=>0≤v∧v < k):=by
 unfold yK
 have e1:n.tmod k < k:=Int.tmod_lt_of_pos n (by omega)
 have e2:-k < n.tmod k:=by
  have h:=Int.natAbs_tmod n k
  have h3:n.natAbs % k.natAbs < k.natAbs:=Nat.mod_lt _ (by omega)
  omega
 rw [if_neg (by omega)]
 refine .ite (fun c=>.mk ?_) fun c=>.mk ⟨by omega,e1⟩
 rw [lD (by omega) (by omega)]
 omega
theorem qQ {fu:Nat} {T:jR} {k:Int} (h:TQ T) (h1:1≤k) (h2:k≤1000):kI (kM fu T k) (fun r=>iA r fun v T'=>(0≤v∧v < k)∧TQ T'):=by
 have h3:=h.lo;have h4:=h.hi;have h5:=h.len
 unfold kM
 refine .ite (fun c=>.mk ⟨⟨Int.le_refl _,by omega⟩,h⟩) fun c=>?_
 rw [lD (n:=T.a+1) (by omega) (by omega),lD (n:=T.a+1 - 1) (by omega) (by omega)]
 refine .bd (.ix (by omega) (by omega)) fun e _=>.bd (O1 h1 (by omega)) fun v hv=>.mk ⟨hv,⟨by dsimp only;omega,by dsimp only;omega,h5⟩⟩
theorem SG {fu:Nat} {T:jR}:kI (Bw fu T) (fun _=>True):=.mk trivial
theorem Co {α:Type} {fu:Nat} {T:jR} {l:List α} {β:Type} {f:α→jR→Option β} {P:β→Prop} (h:TQ T) (h1:1≤l.length) (h2:l.length≤1000) (k:∀ x T',x ∈ l→TQ T'→kI (f x T') P):kI ((kM fu T ((l.length:Nat):Int)).bind fun r=>iA r fun v T'=>(ix l v).bind fun x=>f x T') P:=
 .bp (qQ h (by omega) (by omega)) fun v T' hv=>.bd (.ix hv.1.1 hv.1.2) fun x hx=>k x T' (List.mem_of_getElem? hx) hv.2
theorem NT {fu:Nat} {T:jR} (h:TQ T):kI (ym fu T) (fun r=>iA r fun v T'=>(0≤v∧v≤999999999999999999)∧TQ T'):=by
 unfold ym
 refine Co h (by decide) (by decide) fun x T' hx hT=>.mk ⟨?_,hT⟩
 revert x
 decide
theorem Cx {fu:Nat} {n:Int} (h:0≤n∧n≤999999999999999999):kI (uz fu n) (fun x=>GE 1 x):=.mk ⟨⟨Nat.zero_le _,Nat.zero_le _,h.1,h.2⟩,Nat.zero_le _,fun y hy=>(by cases hy)⟩
theorem xg {fu:Nat} {n:ByteArray} (h:n.size≤4):kI (oO fu n) (fun x=>GE 1 x):=.mk ⟨⟨h,Nat.zero_le _,(by decide:(0:Int)≤0),(by decide:(0:Int)≤999999999999999999)⟩,Nat.zero_le _,fun y hy=>(by cases hy)⟩
theorem F8:∀ (l:List Int) (r:ByteArray),(l.foldl (fun r n=>r.push (UInt8.ofNat n.toNat)) r).size=r.size+l.length
 | [],r=>rfl
 | x :: l,r=>by
  rw [List.foldl_cons,F8 l,ByteArray.size_push,List.length_cons]
  omega
theorem OG {l:List Ei}:(UZ l).size=l.length:=by
 unfold UZ Go.Fw.strOf
 rw [F8,List.length_map]
 exact Nat.zero_add _
theorem Cm:∀ {d fu:Nat} {n:Int},0≤n→n < 10 ^ d→1≤d→d≤18→d≤fu→kI (um fu n) (fun s=>s.size≤d)
 | 0,_,_,_,_,h,_,_=>by omega
 | d+1,0,_,_,_,_,_,h=>by omega
 | d+1,fu+1,n,h0,h1,_,h3,h4=>by
  show kI (yh fu (um fu) n) _
  unfold yh
  rw [if_neg (by omega)]
  refine .ite (fun c=>.mk (by rw [OG];exact Nat.succ_le_succ (Nat.zero_le _))) fun c=>?_
  have hd:1≤d:=by
   rcases d with _ | d
   · omega
   · omega
  have e1:n.tdiv 10=n / 10:=Int.tdiv_eq_ediv_of_nonneg h0
  have e2:n.tmod 10=n % 10:=Int.tmod_eq_emod_of_nonneg h0
  have e3:n / 10 < 10 ^ d:=by
   rw [Int.pow_succ] at h1
   omega
  have e4:(10:Int) ^ d≤10 ^ 17:=by
   have h5:(10:Nat) ^ d≤10 ^ 17:=Nat.pow_le_pow_right (by decide) (by omega)
   exact_mod_cast h5
  rw [e1,e2,lD (by omega) (by omega)]
  refine .bd (Cm (d:=d) (by omega) e3 hd (by omega) (by omega)) fun s hs=>?_
  refine .bd (Cm (d:=1) (by omega) (by omega) (by omega) (by omega) (by omega)) fun t ht=>?_
  refine .bd (.qw (by omega)) fun r hr=>.mk ?_
  rw [hr,Bf]
  omega
theorem Kg {fu:Nat} {M:lK} {T:jR} (hf:3≤fu) (h0:0≤M.g) (h1:M.g≤30):kI (vQ fu M T) (fun r=>iA r fun s M'=>s.size≤4∧M'=⟨M.f,M.e,M.b,M.a,M.d,M.c,M.g+1,M.h⟩):=by
 unfold vQ
 rw [lD (by omega) (by omega)]
 refine .bd (Cm (d:=2) (by omega) (by omega) (by omega) (by omega) (by omega)) fun s hs=>?_
 refine .bd (.qw (by have:(⟨#[118]⟩:ByteArray).size=1:=rfl;omega)) fun r hr=>.mk ⟨?_,rfl⟩
 have:(⟨#[118]⟩:ByteArray).size=1:=rfl
 rw [hr,Bf]
 omega
def XP (d:Nat) (M:lK) (r:jL × lK × jR):Prop:=iA r fun x r=>iA r fun M' T'=>GE d x∧M'=M∧TQ T'
theorem GE.U0 {d:Nat} {op:Int} {n f:ByteArray} {y:jL} (h1:n.size≤4) (h2:f.size≤4) (h:GE d y):GE (d+1) ⟨op,0,0,n,f,[y]⟩:=⟨⟨h1,h2,(by decide:(0:Int)≤0),(by decide:(0:Int)≤999999999999999999)⟩,(by decide:1≤2),fun z hz=>by
 simp only [List.mem_cons,List.not_mem_nil,or_false] at hz
 subst hz
 exact h⟩
theorem GE.Vb {d:Nat} {op:Int} {n f:ByteArray} {y y':jL} (h1:n.size≤4) (h2:f.size≤4) (h:GE d y) (h':GE d y'):GE (d+1) ⟨op,0,0,n,f,[y,y']⟩:=⟨⟨h1,h2,(by decide:(0:Int)≤0),(by decide:(0:Int)≤999999999999999999)⟩,(by decide:2≤2),fun z hz=>by
 simp only [List.mem_cons,List.not_mem_nil,or_false] at hz
 rcases hz with hz | hz <;> subst hz
 · exact h
 · exact h'⟩
theorem GE.Vl {d:Nat} {op:Int} {n f:ByteArray} (h1:n.size≤4) (h2:f.size≤4):GE (d+1) ⟨op,0,0,n,f,[]⟩:=⟨⟨h1,h2,(by decide:(0:Int)≤0),(by decide:(0:Int)≤999999999999999999)⟩,(by decide:0≤2),fun z hz=>by cases hz⟩
theorem JW:∀ x ∈ ([(⟨#[120]⟩:ByteArray),(⟨#[121]⟩:ByteArray)]:List ByteArray),x.size≤4:=by
 intro x hx
 simp only [List.mem_cons,List.not_mem_nil,or_false] at hx
 rcases hx with rfl | rfl <;> decide
def RH (fu:Nat):Prop:=∀ (M:lK) (T:jR) (e:Nat),MP M→TQ T→e≤3→2 * e+3≤fu→kI (mR fu M T (3 - e)) (XP (e+1) M)
def Vr (fu:Nat):Prop:=∀ (M:lK) (T:jR) (e:Nat),MP M→TQ T→e≤2→2 * e+4≤fu→0 < M.c.length→kI (nP fu M T (3 - e)) (XP (e+2) M)
theorem RH.dn {fu:Nat} (h:RH fu) {M:lK} {T:jR} {e:Nat} {x:Int} (h1:MP M) (h2:TQ T) (h3:e≤3) (h4:2 * e+3≤fu) (hx:x=3 - e):kI (mR fu M T x) (XP (e+1) M):=by subst hx;exact h M T e h1 h2 h3 h4
theorem LU:∀ (fu:Nat),RH fu∧Vr fu
 | 0=>⟨fun _ _ _ _ _ _ h=>by omega,fun _ _ _ _ _ _ h=>by omega⟩
 | fu+1=>by
  have ih:=LU fu
  constructor
  · intro M T e hM hT he hf
    show kI (Ar fu (mR fu) (nP fu) M T _) _
    unfold Ar
    have n1:=hM.ns;have n2:=hM.np;have n3:=hM.na;have hl:=hM.l
    refine .bp (qQ hT (by decide) (by decide)) fun k T1 h1=>?_
    have hJ0:kI (zm fu (mR fu) (nP fu) (3 - e) k) (oK (fun b=>b=false→1≤e) (fun _=>False)):=by
      unfold zm
      exact .ite (fun c=>.go fun z=>(by cases z)) fun c=>.go fun _=>by omega
    refine .el hJ0 (fun b hb=>?_) fun _ z=>z.elim
    refine .ite (fun _=>?_) fun hb0=>?_
    · exact .bp (NT h1.2) fun v T2 h2=>.bd (Cx h2.1) fun x hx=>.mk ⟨hx.mono (by omega),rfl,h2.2⟩
    have he1:1≤e:=hb (by simpa using hb0)
    have hJ1:kI (zq fu (mR fu) (nP fu) M k) (oK (fun b=>b=true→0 < M.a.length) (fun _=>False)):=by
      unfold zq
      exact .ite (fun c=>.go fun z=>by have:=of_decide_eq_true z;omega) fun c=>.go fun z=>(by cases z)
    refine .el hJ1 (fun b hb=>?_) fun _ z=>z.elim
    refine .ite (fun hb0=>?_) fun hb0=>?_
    · have:=hb hb0
      exact Co h1.2 (by omega) (by omega) fun s T2 hs h2=>.bd (xg (n1.2 s hs)) fun x hx=>.mk ⟨hx.mono (by omega),rfl,h2⟩
    have hJ2:kI (zk fu (mR fu) (nP fu) M k) (oK (fun b=>b=true→0 < M.d.length) (fun _=>False)):=by
      unfold zk
      exact .ite (fun c=>.go fun z=>by have:=of_decide_eq_true z;omega) fun c=>.go fun z=>(by cases z)
    refine .el hJ2 (fun b hb=>?_) fun _ z=>z.elim
    refine .ite (fun hb0=>?_) fun hb0=>?_
    · have:=hb hb0
      exact Co h1.2 (by omega) (by omega) fun s T2 hs h2=>.bp (qQ h2 (by decide) (by decide)) fun v T3 h3=>.bd (.ix h3.1.1 h3.1.2) fun f hf=>.mk ⟨GE.Vl (n2.2 s hs) (JW f (List.mem_of_getElem? hf)),rfl,h3.2⟩
    have hJ3:kI (zh fu (mR fu) (nP fu) M k) (oK (fun b=>b=true→0 < M.c.length) (fun _=>False)):=by
      unfold zh
      exact .ite (fun c=>.go fun z=>by have:=of_decide_eq_true z;omega) fun c=>.go fun z=>(by cases z)
    refine .el hJ3 (fun b hb3=>?_) fun _ z=>z.elim
    obtain ⟨e,rfl⟩:∃ e',e=e'+1:=⟨e - 1,by omega⟩
    have hw:wr ((3:Int) - ((e+1:Nat):Int)+1)=3 - (e:Int):=by rw [lD (by omega) (by omega)];omega
    rw [hw]
    refine .ite (fun hb0=>?_) fun hb0=>?_
    · refine .bp (ih.2 M T1 e hM h1.2 (by omega) (by omega) (hb3 hb0)) fun x r hx=>.pp hx fun M' T' hx=>.mk ?_
      exact hx
    refine .ite (fun _=>?_) fun _=>?_
    · refine .bp (qQ h1.2 (by decide) (by decide)) fun v T2 h2=>.bp (ih.1 M T2 e hM h2.2 (by omega) (by omega)) fun x r hx=>.pp hx fun M' T' hx=>.mk ⟨?_,hx.2⟩
      exact GE.U0 (Nat.zero_le _) (Nat.zero_le _) hx.1
    · refine .bp (qQ h1.2 (by decide) (by decide)) fun v T2 h2=>.bp (ih.1 M T2 e hM h2.2 (by omega) (by omega)) fun x r hx=>.pp hx fun M' T' hx=>?_
      obtain ⟨hx1,rfl,hx3⟩:=hx
      refine .bp (ih.1 M' T' e hM hx3 (by omega) (by omega)) fun y r hy=>.pp hy fun M2 T3 hy=>.mk ⟨?_,hy.2⟩
      exact GE.Vb (Nat.zero_le _) (Nat.zero_le _) hx1 hy.1
  · intro M T e hM hT he hf ha
    show kI (wI fu (mR fu) (nP fu) M T _) _
    unfold wI
    have n3:=hM.na;have hl:=hM.l
    refine Co hT (by omega) (by omega) fun s T1 hs h1=>.bp (qQ h1 (by decide) (by decide)) fun v T2 h2=>?_
    refine .ite (fun _=>?_) fun _=>?_
    · exact .bp (qQ h2.2 (by decide) (by decide)) fun v3 T3 h3=>.bd (Cx ⟨h3.1.1,by have:=h3.1.2;omega⟩) fun x hx=>.mk ⟨GE.U0 (n3.2 s hs) (Nat.zero_le _) (hx.mono (by omega)),rfl,h3.2⟩
    · exact .bp (ih.1 M T2 e hM h2.2 (by omega) (by omega)) fun x r hx=>.pp hx fun M' T' hx=>.mk ⟨GE.U0 (n3.2 s hs) (Nat.zero_le _) hx.1,hx.2⟩
theorem Cj {fu:Nat} (hf:9≤fu) {M:lK} {T:jR} (hM:MP M) (hT:TQ T) {d:Int} (h0:0≤d) (h3:d≤3):kI (mR fu M T d) (XP 4 M):=by
 have h:=(LU fu).1 M T (3 - d.toNat) hM hT (by omega) (by omega)
 rw [show (3:Int) - ((3 - d.toNat:Nat):Int)=d from by omega] at h
 exact h.imp fun v hv=>⟨hv.1.mono (by omega),hv.2⟩
theorem Nn {fu:Nat} (hf:8≤fu) {M:lK} {T:jR} (hM:MP M) (hT:TQ T) (ha:0 < M.c.length):kI (nP fu M T 1) (XP 4 M):=(LU fu).2 M T 2 hM hT (by decide) (by omega) ha
end Go.Proofs.Ytfglbdkfnphjgaa
set_option linter.unusedVariables false
set_option linter.unusedSimpArgs false
namespace Go.Proofs.Ytfglbdkfnphjgaa
open Go.RowKit Go.Fw
def GS:Nat→jM→Prop
 | 0,_=>False
 | k+1,x=>(x.a.size≤4∧x.g.size≤4∧x.k.size≤4∧0≤x.m∧x.m≤9)∧(x.d.length≤1∧∀ y ∈ x.d,GE 4 y)∧(x.b.length≤4∧∀ y ∈ x.b,GE 4 y)∧(x.f.length≤9∧∀ y ∈ x.f,GS k y)∧(x.i.length≤9∧∀ y ∈ x.i,GS k y)
theorem GS.mono:∀ {n m:Nat} {x:jM},GS n x→n≤m→GS m x
 | 0,_,_,h,_=>h.elim
 | n+1,0,_,h,k=>by omega
 | n+1,m+1,x,h,k=>⟨h.1,h.2.1,h.2.2.1,⟨h.2.2.2.1.1,fun y hy=>GS.mono (h.2.2.2.1.2 y hy) (by omega)⟩,⟨h.2.2.2.2.1,fun y hy=>GS.mono (h.2.2.2.2.2 y hy) (by omega)⟩⟩
theorem GS.mk {j:Nat} {kd ln id len vr ca:Int} {nm ty fn:ByteArray} {tg ar:List jL} {bo el:List jM} (h1:nm.size≤4) (h2:ty.size≤4) (h3:fn.size≤4) (h4:0≤len∧len≤9) (h5:tg.length≤1∧∀ y ∈ tg,GE 4 y) (h6:ar.length≤4∧∀ y ∈ ar,GE 4 y) (h7:bo.length≤9∧∀ y ∈ bo,GS j y) (h8:el.length≤9∧∀ y ∈ el,GS j y):GS (j+1) ⟨kd,ln,id,nm,ty,len,vr,tg,fn,ca,ar,bo,el⟩:=⟨⟨h1,h2,h3,h4.1,h4.2⟩,h5,h6,h7,h8⟩
theorem z9:(0:Int)≤0∧(0:Int)≤9:=by decide
theorem b0:be.size≤4:=Nat.zero_le _
theorem Qn {α:Type} {p:α→Prop} {l:List α} {a b:Nat} (h:l.length≤a∧∀ y ∈ l,p y) (k:a≤b):l.length≤b∧∀ y ∈ l,p y:=⟨Nat.le_trans h.1 k,h.2⟩
structure Mr (M M':lK):Prop where
 f:M'.f=M.f
 fn:M'.e=M.e
 pr:M'.b=M.b
 s:M.a.length≤M'.a.length∧(M'.a.length:Int)+M'.h≤M.a.length+M.h
 p:M.d.length≤M'.d.length∧(M'.d.length:Int)+M'.h≤M.d.length+M.h
 a:M.c.length≤M'.c.length∧(M'.c.length:Int)+M'.h≤M.c.length+M.h
 c:M.g≤M'.g∧M'.g+M'.h≤M.g+M.h
 l:0≤M'.h
 n1:∀ n ∈ M'.a,n.size≤4
 n2:∀ n ∈ M'.d,n.size≤4
 n3:∀ n ∈ M'.c,n.size≤4
theorem Mr.mp {M M':lK} (k:Mr M M') (h:MP M):MP M':=by
 obtain ⟨a1,a2,a3,a4,a5,a6,a7,a8,a9,a10,a11⟩:=k
 obtain ⟨c1,c2,c3,c4,c5,c6,c7⟩:=h
 exact ⟨by rw [a3];exact c1,by rw [a1,a2];exact c2,⟨by omega,a9⟩,⟨by omega,a10⟩,⟨by omega,a11⟩,by omega,a8⟩
theorem Mr.rfl' {M:lK} (h:MP M):Mr M M:=⟨rfl,rfl,rfl,⟨Nat.le_refl _,Int.le_refl _⟩,⟨Nat.le_refl _,Int.le_refl _⟩,⟨Nat.le_refl _,Int.le_refl _⟩,⟨Int.le_refl _,Int.le_refl _⟩,h.l,h.ns.2,h.np.2,h.na.2⟩
theorem Mr.trans {M M' M2:lK} (k:Mr M M') (j:Mr M' M2):Mr M M2:=by
 obtain ⟨a1,a2,a3,a4,a5,a6,a7,a8,a9,a10,a11⟩:=k
 obtain ⟨c1,c2,c3,c4,c5,c6,c7,c8,c9,c10,c11⟩:=j
 exact ⟨c1.trans a1,c2.trans a2,c3.trans a3,by omega,by omega,by omega,by omega,c8,c9,c10,c11⟩
def xH (M:lK):lK:=⟨M.f,M.e,M.b,M.a,M.d,M.c,M.g,M.h - 1⟩
theorem Mr.dn {M:lK} (h:MP M) (h1:0 < M.h):Mr M (xH M):=⟨rfl,rfl,rfl,⟨Nat.le_refl _,by dsimp only [xH];omega⟩,⟨Nat.le_refl _,by dsimp only [xH];omega⟩,⟨Nat.le_refl _,by dsimp only [xH];omega⟩,⟨Int.le_refl _,by dsimp only [xH];omega⟩,by dsimp only [xH];omega,h.ns.2,h.np.2,h.na.2⟩
def SP (b k:Nat) (M:lK) (r:List jM × lK × jR):Prop:=iA r fun l r=>iA r fun M' T'=>(l.length≤b∧∀ y ∈ l,GS k y)∧Mr M M'∧TQ T'
def SX (M:lK) (r:jM × lK × jR):Prop:=iA r fun x r=>iA r fun M' T'=>GS 1 x∧M'=M∧TQ T'
theorem IW:∀ x ∈ ([(⟨#[102]⟩:ByteArray),(⟨#[103]⟩:ByteArray),(⟨#[104]⟩:ByteArray),(⟨#[107]⟩:ByteArray)]:List ByteArray),x.size≤4:=by
 intro x hx
 simp only [List.mem_cons,List.not_mem_nil,or_false] at hx
 rcases hx with rfl | rfl | rfl | rfl <;> decide
theorem I1 {fu:Nat} (hf:9≤fu) {M:lK} (hM:MP M) {k p:Int} (hk:0≤k) (hp:M.b[k.toNat]?=some p) (hp4:p≤4) {O:Bool × lK × jR × jM→Prop}:∀ (n i:Nat) (T:jR) (out:List jL),TQ T→p+1≤n+i→(i:Int)≤4→(out.length=i∧∀ y ∈ out,GE 4 y)→1≤n→
  kI (vB fu k n i M.f M.e M.b M.g M.h T.l T.a M.a M.d M.c out) (oK (fun r=>iA r fun _ r=>iA r fun f r=>iA r fun fn r=>iA r fun pr r=>iA r fun c r=>iA r fun l r=>iA r fun tl r=>iA r fun ta r=>iA r fun s r=>iA r fun p r=>iA r fun a o=>(⟨f,fn,pr,s,p,a,c,l⟩:lK)=M∧TQ ⟨tl,ta⟩∧o.length≤4∧∀ y ∈ o,GE 4 y) O)
 | 0,_,_,_,_,_,_,_,h=>by omega
 | n+1,i,T,out,hT,hn,hi,ho,_=>by
  rw [vB]
  have hlt:=kE hp
  refine .Qu (.ix hk (by omega)) fun e _ he=>?_
  rw [hp] at he
  cases he
  refine .ite (fun c=>?_) fun _=>.go ⟨rfl,hT,by omega,ho.2⟩
  refine .bp (Cj hf hM hT (by decide) (by decide)) fun x r hx=>.pp hx fun M' T' hx=>?_
  obtain ⟨hx1,rfl,hx3⟩:=hx
  refine .Qu (.app (by simp only [List.length_cons,List.length_nil];omega)) fun r _ hr=>?_
  subst hr
  refine .bd (.ix (by omega) (by rw [jY];omega)) fun _ _=>.bd (.st ⟨by omega,by rw [jY];omega⟩) fun r hr=>?_
  rw [lD (by omega) (by omega)]
  refine I1 hf hM hk hp hp4 n (i+1) T' r hx3 (by omega) (by omega) ⟨by rw [hr,List.length_set,jY,ho.1],fun y hy=>?_⟩ (by omega)
  rw [hr] at hy
  rcases List.mem_or_eq_of_mem_set hy with hy | hy
  · exact pq ho.2 (GE.Vl (Nat.zero_le _) (Nat.zero_le _)) y hy
  · rw [hy];exact hx1
theorem g_call {fu:Nat} (hf:9≤fu) {M:lK} {T:jR} (hM:MP M) (hT:TQ T) {x:jM} (hx:GS 1 x) (ha:x.b=[]):kI (yL fu M T x) (fun r=>iA r fun b r=>iA r fun M' r=>iA r fun T' x'=>M'=M∧TQ T'∧GS 1 x'):=by
 unfold yL
 obtain ⟨f1,f2,f3⟩:=hM.f
 have hJ:kI (zl fu M T x) (oK (fun r=>iA r fun k r=>iA r fun l a=>(0≤k∧k < 4)∧TQ ⟨l,a⟩) (fun r=>iA r fun b r=>iA r fun M' r=>iA r fun T' x'=>M'=M∧TQ T'∧GS 1 x')):=by
  unfold zl
  rw [lD (n:=M.f+1) (by omega) (by omega)]
  refine .ite (fun c=>?_) fun c=>?_
  · rw [lD (by omega) (by omega)]
    refine .bp (qQ hT (by omega) (by omega)) fun v T1 h1=>.go ⟨?_,h1.2⟩
    rw [lD (by omega) (by omega)]
    omega
  · refine .bp (qQ hT (by decide) (by decide)) fun v T1 h1=>.ite (fun _=>.out ⟨rfl,h1.2,hx⟩) fun _=>?_
    exact .bp (qQ h1.2 (by omega) (by omega)) fun v T2 h2=>.go ⟨by omega,h2.2⟩
 refine .el hJ (fun r hr=>.pp hr fun k r hr=>.pp hr fun tl ta hr=>?_) fun o ho=>.mk ho
 refine .bd (.ix hr.1.1 hr.1.2) fun fn hfn=>?_
 obtain ⟨p,hp⟩:=lL (l:=M.b) (k:=k.toNat) (by rw [hM.b.1];omega)
 have hp4:=hM.b.2 p (List.mem_of_getElem? hp)
 rw [ha]
 refine .el (I1 hf hM hr.1.1 hp hp4.2 (O:=fun _=>False) fu 0 ⟨tl,ta⟩ [] hr.2 (by omega) (by omega) ⟨rfl,fun y hy=>(by cases hy)⟩ (by omega)) (fun r hr=>?_) fun _ z=>z.elim
 refine .pp hr fun a1 r hr=>.pp hr fun a1 r hr=>.pp hr fun a1 r hr=>.pp hr fun a1 r hr=>.pp hr fun a1 r hr=>.pp hr fun a1 r hr=>.pp hr fun a1 r hr=>.pp hr fun a1 r hr=>.pp hr fun a1 r hr=>.pp hr fun a1 r hr=>.pp hr fun a1 a2 hr=>.mk ⟨hr.1,hr.2.1,?_⟩
 exact GS.mk hx.1.1 hx.1.2.1 (IW fn (List.mem_of_getElem? hfn)) ⟨hx.1.2.2.2.1,hx.1.2.2.2.2⟩ hx.2.1 hr.2.2 hx.2.2.2.1 hx.2.2.2.2
theorem Gj {l:List ByteArray} {x:ByteArray}:((l ++ [x]).length:Int)=l.length+1:=by rw [jY];omega
theorem NB {fu:Nat} (hf:9≤fu) {M:lK} {T:jR} (hM:MP M) (hl:0 < M.h) (hT:TQ T):kI (wO fu (xH M) T) (fun r=>iA r fun x r=>iA r fun M' T'=>GS 1 x∧Mr M M'∧TQ T'):=by
 unfold wO
 obtain ⟨c1,c2,c3,c4,c5,c6,c7⟩:=hM
 refine .bp (Kg (M:=xH M) (by omega) c6.1 (by show M.g≤30;omega)) fun s M1 h1=>.bp (qQ hT (by decide) (by decide)) fun v T1 h2=>?_
 obtain ⟨h1,rfl⟩:=h1
 have n1:=c3.1;have n2:=c4.1;have n3:=c5.1
 refine .ite (fun _=>?_) fun _=>.ite (fun _=>?_) fun _=>?_
 · refine .bd (.app (by show M.d.length+1≤_;omega)) fun r hr=>.mk ⟨GS.mk h1 (by decide) b0 z9 nK nK nK nK,?_,h2.2⟩
   subst hr
   exact ⟨rfl,rfl,rfl,⟨Nat.le_refl _,by show _+(M.h - 1)≤_;exact (by dsimp only [xH];omega)⟩,⟨by dsimp only [xH];rw [jY];omega,by dsimp only [xH];rw [Gj];omega⟩,⟨Nat.le_refl _,by dsimp only [xH];omega⟩,⟨by dsimp only [xH];omega,by dsimp only [xH];omega⟩,by dsimp only [xH];omega,c3.2,pq c4.2 h1,c5.2⟩
 · refine .bd (.app (by show M.c.length+1≤_;omega)) fun r hr=>.mk ⟨GS.mk h1 b0 b0 (by decide) nK nK nK nK,?_,h2.2⟩
   subst hr
   exact ⟨rfl,rfl,rfl,⟨Nat.le_refl _,by dsimp only [xH];omega⟩,⟨Nat.le_refl _,by dsimp only [xH];omega⟩,⟨by dsimp only [xH];rw [jY];omega,by dsimp only [xH];rw [Gj];omega⟩,⟨by dsimp only [xH];omega,by dsimp only [xH];omega⟩,by dsimp only [xH];omega,c3.2,c4.2,pq c5.2 h1⟩
 · refine .bd (.app (by show M.a.length+1≤_;omega)) fun r hr=>.mk ⟨GS.mk h1 b0 b0 z9 nK nK nK nK,?_,h2.2⟩
   subst hr
   exact ⟨rfl,rfl,rfl,⟨by dsimp only [xH];rw [jY];omega,by dsimp only [xH];rw [Gj];omega⟩,⟨Nat.le_refl _,by dsimp only [xH];omega⟩,⟨Nat.le_refl _,by dsimp only [xH];omega⟩,⟨by dsimp only [xH];omega,by dsimp only [xH];omega⟩,by dsimp only [xH];omega,pq c3.2 h1,c4.2,c5.2⟩
theorem GS.nil {kd:Int}:GS 1 ⟨kd,0,0,be,be,0,0,[],be,0,[],[],[]⟩:=GS.mk b0 b0 b0 z9 nK nK nK nK
theorem O9 {fu:Nat} (hf:9≤fu) {M:lK} {T:jR} (hM:MP M) (hT:TQ T):kI (xR fu M T) (SX M):=by
 unfold xR
 obtain ⟨n1,m1⟩:=hM.ns;obtain ⟨n2,m2⟩:=hM.np;obtain ⟨n3,m3⟩:=hM.na;have hl:=hM.l
 refine .bp (qQ hT (by decide) (by decide)) fun k T1 h1=>?_
 have hJ0:kI (wV fu M k T1) (oK (fun r=>iA r fun _ r=>iA r fun tl r=>iA r fun ta r=>iA r fun _ r=>iA r fun _ r=>iA r fun _ r=>iA r fun _ r=>iA r fun _ r=>iA r fun _ r=>iA r fun _ r=>iA r fun _ r=>iA r fun _ r=>iA r fun _ r=>iA r fun _ r=>iA r fun _ r=>iA r fun f r=>iA r fun fn r=>iA r fun pr r=>iA r fun c r=>iA r fun l r=>iA r fun s r=>iA r fun p a=>(⟨f,fn,pr,s,p,a,c,l⟩:lK)=M∧TQ ⟨tl,ta⟩) (SX M)):=by
  unfold wV
  refine .ite (fun c=>?_) fun c=>.go ⟨rfl,h1.2⟩
  refine .bp (g_call hf hM h1.2 GS.nil rfl) fun b r hr=>.pp hr fun M' r hr=>.pp hr fun T2 x hr=>?_
  obtain ⟨rfl,h2,hx⟩:=hr
  refine .ite (fun _=>?_) fun _=>.go ⟨rfl,h2⟩
  refine .ite (fun c=>?_) fun _=>.out ⟨hx,rfl,h2⟩
  refine .bp (qQ h2 (by decide) (by decide)) fun v T3 h3=>.ite (fun _=>?_) fun _=>.out ⟨hx,rfl,h3.2⟩
  refine Co h3.2 (by omega) (by omega) fun s T4 hs h4=>.bd (xg (m1 s hs)) fun y hy=>.out ⟨?_,rfl,h4⟩
  exact GS.mk hx.1.1 hx.1.2.1 hx.1.2.2.1 ⟨hx.1.2.2.2.1,hx.1.2.2.2.2⟩ (BK (hy.mono (by decide)) (by decide)) hx.2.2.1 hx.2.2.2.1 hx.2.2.2.2
 refine .el hJ0 (fun r hr=>?_) fun o ho=>.mk ho
 refine .pp hr fun a1 r hr=>.pp hr fun tl r hr=>.pp hr fun ta r hr=>.pp hr fun a1 r hr=>.pp hr fun a1 r hr=>.pp hr fun a1 r hr=>.pp hr fun a1 r hr=>.pp hr fun a1 r hr=>.pp hr fun a1 r hr=>.pp hr fun a1 r hr=>.pp hr fun a1 r hr=>.pp hr fun a1 r hr=>.pp hr fun a1 r hr=>.pp hr fun a1 r hr=>.pp hr fun a1 r hr=>.pp hr fun a1 r hr=>.pp hr fun a2 r hr=>.pp hr fun a3 r hr=>.pp hr fun a4 r hr=>.pp hr fun a5 r hr=>.pp hr fun a6 r hr=>.pp hr fun a7 a8 hr=>?_
 obtain ⟨rfl,hT2⟩:=hr
 dsimp only at n1 m1 n2 m2 n3 m3 hl
 have hJ1:kI (wZ fu k tl ta a1 a2 a3 a4 a5 a6 a7 a8) (oK (fun r=>iA r fun tg r=>iA r fun tl r=>iA r fun ta r=>iA r fun f r=>iA r fun fn r=>iA r fun pr r=>iA r fun c r=>iA r fun l r=>iA r fun s r=>iA r fun p a=>(⟨f,fn,pr,s,p,a,c,l⟩:lK)=⟨a1,a2,a3,a6,a7,a8,a4,a5⟩∧TQ ⟨tl,ta⟩∧tg.length≤1∧∀ y ∈ tg,GE 4 y) (SX ⟨a1,a2,a3,a6,a7,a8,a4,a5⟩)):=by
  unfold wZ
  have hJ2:kI (wX fu k a7) (oK (fun b=>b=true→0 < a7.length) (SX ⟨a1,a2,a3,a6,a7,a8,a4,a5⟩)):=by
    unfold wX
    exact .ite (fun c=>.go fun z=>by have:=of_decide_eq_true z;omega) fun c=>.go fun z=>(by cases z)
  refine .Cv hJ2 fun b hb=>.ite (fun z=>?_) fun _=>?_
  · have:=hb z
    exact Co hT2 (by omega) (by omega) fun s T3 hs h3=>.bp (qQ h3 (by decide) (by decide)) fun v T4 h4=>.bd (.ix h4.1.1 h4.1.2) fun e he=>.go ⟨rfl,h4.2,BK (GE.Vl (m2 s hs) (JW e (List.mem_of_getElem? he))) (by decide)⟩
  have hJ3:kI (wW fu k a8) (oK (fun b=>b=true→0 < a8.length) (SX ⟨a1,a2,a3,a6,a7,a8,a4,a5⟩)):=by
    unfold wW
    exact .ite (fun c=>.go fun z=>by have:=of_decide_eq_true z;omega) fun c=>.go fun z=>(by cases z)
  refine .Cv hJ3 fun b hb=>.ite (fun z=>?_) fun _=>.ite (fun c=>?_) fun _=>?_
  · refine .bp (Nn (by omega) hM hT2 (hb z)) fun x r hx=>.pp hx fun M' T' hx=>.go ⟨?_,hx.2.2,BK hx.1 (by decide)⟩
    exact hx.2.1
  · exact Co hT2 (by omega) (by omega) fun s T3 hs h3=>.bd (xg (m1 s hs)) fun y hy=>.go ⟨rfl,h3,BK (hy.mono (by decide)) (by decide)⟩
  · exact .bp (Cj hf hM hT2 (by decide) (by decide)) fun x r hx=>.pp hx fun M' T' hx=>.out ⟨GS.mk b0 b0 b0 z9 nK (BK hx.1 (by decide)) nK nK,hx.2⟩
 refine .el hJ1 (fun r hr=>?_) fun o ho=>.mk ho
 refine .pp hr fun tg r hr=>.pp hr fun tl r hr=>.pp hr fun ta r hr=>.pp hr fun b1 r hr=>.pp hr fun b2 r hr=>.pp hr fun b3 r hr=>.pp hr fun b4 r hr=>.pp hr fun b5 r hr=>.pp hr fun b6 r hr=>.pp hr fun b7 b8 hr=>?_
 obtain ⟨h1,h2,h3⟩:=hr
 rw [h1]
 exact .bp (Cj hf hM h2 (by decide) (by decide)) fun x r hx=>.pp hx fun M' T' hx=>.mk ⟨GS.mk b0 b0 b0 z9 h3 (BK hx.1 (by decide)) nK nK,hx.2⟩
end Go.Proofs.Ytfglbdkfnphjgaa
set_option linter.unusedVariables false
set_option linter.unusedSimpArgs false
namespace Go.Proofs.Ytfglbdkfnphjgaa
open Go.RowKit Go.Fw
def VM (fu:Nat):Prop:=∀ (M:lK) (T:jR) (j most:Nat),MP M→TQ T→j≤3→most≤10→4 * j+28≤fu→kI (lF fu M T (4 - j) most) (SP (2 * most) (j+1) M)
def Ti (fu:Nat):Prop:=∀ (M:lK) (T:jR) (j most:Nat),MP M→TQ T→j≤3→most≤10→4 * j+29≤fu→kI (mV fu M T (4 - j) most) (SP (2 * most) (j+1) M)
def VD (fu:Nat):Prop:=∀ (M:lK) (T:jR) (j:Nat),MP M→0 < M.h→TQ T→j≤2→4 * j+30≤fu→kI (nu fu (xH M) T (4 - (j+1:Nat))) (SP 2 (j+2) M)
theorem Ti.at' {fu:Nat} (h:Ti fu) {M:lK} {T:jR} {j most:Nat} {x y:Int} (h1:MP M) (h2:TQ T) (h3:j≤3) (h4:most≤10) (h5:4 * j+29≤fu) (hx:x=4 - j) (hy:y=most):kI (mV fu M T x y) (SP (2 * most) (j+1) M):=by subst hx;subst hy;exact h M T j most h1 h2 h3 h4 h5
theorem Rn {fu:Nat} (ih:VM fu):Ti (fu+1):=by
 intro M T j most hM hT hj hm hf
 show kI (Al fu (lF fu) (mV fu) (nu fu) M T _ _) _
 unfold Al
 refine .bp (ih M T j most hM hT hj hm (by omega)) fun l r hr=>.pp hr fun M' T' hr=>?_
 obtain ⟨h1,h2,h3⟩:=hr
 obtain ⟨a1,a2,a3,a4,a5,a6,a7,a8,a9,a10,a11⟩:=h2
 have b1:=hM.ns.1;have b2:=hM.np.1;have b3:=hM.na.1;have b4:=hM.l
 refine .bd (.sl ⟨Int.le_refl _,by omega,by omega⟩) fun l1 e1=>.bd (.sl ⟨Int.le_refl _,by omega,by omega⟩) fun l2 e2=>.bd (.sl ⟨Int.le_refl _,by omega,by omega⟩) fun l3 e3=>?_
 have tk:∀ {L l:List ByteArray} {n:Nat},l=(L.drop (0:Int).toNat).take ((n:Int) - 0).toNat→n≤L.length→(∀ x ∈ L,x.size≤4)→l.length=n∧∀ x ∈ l,x.size≤4:=by
  intro L l n e hn hL
  have e0:l=L.take n:=by rw [e];simp
  rw [e0]
  exact ⟨by rw [List.length_take];omega,fun x hx=>hL x (List.mem_of_mem_take hx)⟩
 have t1:=tk e1 a4.1 a9;have t2:=tk e2 a5.1 a10;have t3:=tk e3 a6.1 a11
 clear tk
 refine .bd (.app (by simp only [List.length_nil];omega)) fun r1 k1=>.bd (.app (by simp only [List.length_nil];omega)) fun r2 k2=>.bd (.app (by simp only [List.length_nil];omega)) fun r3 k3=>.mk ⟨h1,?_,h3⟩
 rw [List.nil_append] at k1 k2 k3
 subst k1 k2 k3
 exact ⟨a1,a2,a3,by dsimp only;omega,by dsimp only;omega,by dsimp only;omega,a7,a8,t1.2,t2.2,t3.2⟩
theorem Rx {fu:Nat} (ih:Ti fu):VD (fu+1):=by
 intro M T j hM hl hT hj hf
 show kI (Aj fu (lF fu) (mV fu) (nu fu) (xH M) T _) _
 unfold Aj
 obtain ⟨c1,c2,c3,c4,c5,c6,c7⟩:=id hM
 refine .bp (Kg (M:=xH M) (by omega) c6.1 (by show M.g≤30;omega)) fun s M1 h1=>?_
 obtain ⟨h1,rfl⟩:=h1
 have n1:=c3.1;have n2:=c4.1;have n3:=c5.1
 refine .bd (.app (by show M.a.length+1≤_;omega)) fun r hr=>.bd (xg h1) fun v hv=>.bp (qQ hT (by decide) (by decide)) fun k T1 h2=>?_
 rw [lD (n:=1+k) (by omega) (by omega)]
 refine .bd (Cx ⟨by omega,by omega⟩) fun lt hlt=>?_
 have hR:Mr M ⟨(xH M).f,(xH M).e,(xH M).b,r,(xH M).d,(xH M).c,(xH M).g+1,(xH M).h⟩:=by
   subst hr
   exact ⟨rfl,rfl,rfl,⟨by dsimp only [xH];rw [jY];omega,by dsimp only [xH];rw [Gj];omega⟩,⟨Nat.le_refl _,by dsimp only [xH];omega⟩,⟨Nat.le_refl _,by dsimp only [xH];omega⟩,⟨by dsimp only [xH];omega,by dsimp only [xH];omega⟩,by dsimp only [xH];omega,pq c3.2 h1,c4.2,c5.2⟩
 refine .bp (ih.at' (j:=j) (most:=4) (hR.mp hM) h2.2 (by omega) (by omega) (by omega) (by rw [lD (by omega) (by omega)];omega) rfl) fun l r hr=>.pp hr fun M' T' hr=>?_
 refine .bd (xg h1) fun v2 hv2=>.bd (xg h1) fun v3 hv3=>.bd (Cx (by decide)) fun lo hlo=>?_
 refine .bd (.app (by have:=hr.1.1;simp only [List.length_cons,List.length_nil];omega)) fun r2 hr2=>.mk ⟨⟨Nat.le_refl _,?_⟩,hR.trans hr.2.1,hr.2.2⟩
 have hr2':r2.length≤9∧∀ y ∈ r2,GS (j+1) y:=by
   subst hr2
   refine ⟨by rw [jY];have:=hr.1.1;omega,pq hr.1.2 ?_⟩
   exact GS.mk b0 b0 b0 z9 (BK (hv2.mono (by decide)) (by decide)) (BK ((GE.Vb (Nat.zero_le _) (Nat.zero_le _) hv3 hlo).mono (by decide)) (by decide)) nK nK
 intro y hy
 simp only [List.mem_cons,List.not_mem_nil,or_false] at hy
 rcases hy with hy | hy <;> subst hy
 · exact GS.mk h1 b0 b0 z9 nK nK nK nK
 · exact GS.mk b0 b0 b0 z9 nK (BK ((GE.Vb (Nat.zero_le _) (Nat.zero_le _) hv hlt).mono (by decide)) (by decide)) hr2' nK
def SL (b k:Nat) (M:lK) (r:Int × List jM × Int × Int × List Int × Int × Int × List Int × Int × List ByteArray × List ByteArray × List ByteArray):Prop:=iA r fun _ r=>iA r fun o r=>iA r fun f r=>iA r fun fn r=>iA r fun pr r=>iA r fun c r=>iA r fun l r=>iA r fun tl r=>iA r fun ta r=>iA r fun s r=>iA r fun p a=>(o.length≤b∧∀ y ∈ o,GS k y)∧Mr M ⟨f,fn,pr,s,p,a,c,l⟩∧TQ ⟨tl,ta⟩
theorem UL {k i:Nat} {out:List jM} {x:jM} (h:out.length≤2 * i∧∀ y ∈ out,GS k y) (hx:GS k x):(out ++ [x]).length≤2 * (i+1)∧∀ y ∈ out ++ [x],GS k y:=⟨by rw [jY];omega,pq h.2 hx⟩
theorem Dk {fu:Nat} (hb:Ti fu) (hl:VD fu) {j most:Nat} (hj:j≤3) (hm:most≤10) (hf:4 * j+27≤fu) {M0:lK} (hM0:MP M0) {O:List jM × lK × jR→Prop}:∀ (n i:Nat) (out:List jM) (M:lK) (T:jR),Mr M0 M→TQ T→(out.length≤2 * i∧∀ y ∈ out,GS (j+1) y)→i≤most→most+1≤n+i→
  kI (mr fu (lF fu) (mV fu) (nu fu) (4 - j) most n i out M.f M.e M.b M.g M.h T.l T.a M.a M.d M.c) (oK (SL (2 * most) (j+1) M0) O)
 | 0,_,_,_,_,_,_,_,h,h2=>by omega
 | n+1,i,out,M,T,hR,hT,ho,hi,hn=>by
  have hM:=hR.mp hM0
  have fin:kI (some (Ld.go (ρ:=List jM × lK × jR) ((i:Int),out,M.f,M.e,M.b,M.g,M.h,T.l,T.a,M.a,M.d,M.c))) (oK (SL (2 * most) (j+1) M0) O):=.go ⟨Qn ho (by omega),hR,hT⟩
  rw [mr]
  refine .ite (fun c=>?_) fun _=>fin
  refine .ite (fun hleft=>?_) fun _=>fin
  refine .bd SG fun b _=>.ite (fun _=>?_) fun _=>fin
  clear fin
  have hlo:=hM.c;have hl0:=hM.l
  have olen:out.length≤20:=by omega
  rw [lD (n:=(i:Int)+1) (by omega) (by omega),lD (n:=M.h - 1) (by omega) (by omega)]
  have hd:=Mr.dn hM hleft
  have hdn:=hd.mp hM
  have go:∀ (x:jM) (M':lK) (T':jR),GS (j+1) x→Mr M M'→TQ T'→kI ((app out [x]).bind fun r=>mr fu (lF fu) (mV fu) (nu fu) (4 - j) most n ((i:Int)+1) r M'.f M'.e M'.b M'.g M'.h T'.l T'.a M'.a M'.d M'.c) (oK (SL (2 * most) (j+1) M0) O):=fun x M' T' hx k1 k2=>.bd (.app (by simp only [List.length_cons,List.length_nil];omega)) fun r hr=>by
    subst hr
    exact Dk hb hl hj hm hf hM0 n (i+1) _ M' T' (hR.trans k1) k2 (UL ho hx) (by omega) (by omega)
  refine .bp (qQ hT (by decide) (by decide)) fun k T1 h1=>?_
  have hJ1:kI (yn fu (lF fu) (mV fu) (nu fu) M.g k) (oK (fun _=>True) O):=by
    unfold yn
    exact .ite (fun _=>.go trivial) fun _=>.go trivial
  refine .Cv hJ1 fun b _=>.ite (fun _=>?_) fun _=>?_
  · exact .bp (NB (by omega) hM hleft h1.2) fun x r hx=>.pp hx fun M' T' hx=>go x M' T' (hx.1.mono (by omega)) hx.2.1 hx.2.2
  have hJ2:kI (xN fu (lF fu) (mV fu) (nu fu) (4 - j) k) (oK (fun b=>b=true→1≤j) O):=by
    unfold xN
    exact .ite (fun _=>.go fun z=>by have:=of_decide_eq_true z;omega) fun _=>.go fun z=>(by cases z)
  refine .Cv hJ2 fun b hz=>.ite (fun z=>?_) fun _=>?_
  · obtain ⟨j,rfl⟩:∃ j',j=j'+1:=⟨j - 1,by have:=hz z;omega⟩
    refine .bp (Cj (M:=xH M) (by omega) hdn h1.2 (by decide) (by decide)) fun x r hx=>.pp hx fun M1 T2 hx=>?_
    obtain ⟨hx1,rfl,hx3⟩:=hx
    refine .bp (hb.at' (j:=j) (most:=4) hdn hx3 (by omega) (by omega) (by omega) (by rw [lD (by omega) (by omega)];omega) rfl) fun l r hr=>.pp hr fun M2 T3 hr=>?_
    obtain ⟨hl1,hr2,hT3⟩:=hr
    have hJ3:kI (yB fu (lF fu) (mV fu) (nu fu) (4 - (j+1:Nat)) M2 T3) (oK (fun r=>iA r fun o r=>iA r fun f r=>iA r fun fn r=>iA r fun pr r=>iA r fun c r=>iA r fun l r=>iA r fun tl r=>iA r fun ta r=>iA r fun s r=>iA r fun p a=>(o.length≤9∧∀ y ∈ o,GS (j+1) y)∧Mr M ⟨f,fn,pr,s,p,a,c,l⟩∧TQ ⟨tl,ta⟩) O):=by
      unfold yB
      refine .bp (qQ hT3 (by decide) (by decide)) fun v T4 h4=>.ite (fun _=>?_) fun _=>.go ⟨nK,hd.trans hr2,h4.2⟩
      exact .bp (hb.at' (j:=j) (most:=3) (hr2.mp hdn) h4.2 (by omega) (by omega) (by omega) (by rw [lD (by omega) (by omega)];omega) rfl) fun l r hr=>.pp hr fun M3 T5 hr=>.go ⟨Qn hr.1 (by decide),(hd.trans hr2).trans hr.2.1,hr.2.2⟩
    refine .Cv hJ3 fun r hr=>.pp hr fun o r hr=>.pp hr fun b1 r hr=>.pp hr fun b2 r hr=>.pp hr fun b3 r hr=>.pp hr fun b4 r hr=>.pp hr fun b5 r hr=>.pp hr fun b6 r hr=>.pp hr fun b7 r hr=>.pp hr fun b8 r hr=>.pp hr fun b9 b10 hr=>?_
    exact go _ ⟨b1,b2,b3,b8,b9,b10,b4,b5⟩ ⟨b6,b7⟩ (GS.mk b0 b0 b0 z9 nK (BK hx1 (by decide)) (Qn hl1 (by decide)) hr.1) hr.2.1 hr.2.2
  have hJ4:kI (yt fu (lF fu) (mV fu) (nu fu) (4 - j) M.g k) (oK (fun b=>b=true→1≤j) O):=by
    unfold yt
    exact .ite (fun _=>.ite (fun _=>.go fun z=>by omega) fun _=>.go fun z=>(by cases z)) fun _=>.go fun z=>(by cases z)
  refine .Cv hJ4 fun b hz=>.ite (fun z=>?_) fun _=>?_
  · obtain ⟨j,rfl⟩:∃ j',j=j'+1:=⟨j - 1,by have:=hz z;omega⟩
    refine .bp (hl M T1 j hM hleft h1.2 (by omega) (by omega)) fun l r hr=>.pp hr fun M2 T3 hr=>?_
    refine .bd (.app (by have:=hr.1.1;omega)) fun r hr2=>?_
    subst hr2
    refine Dk hb hl hj hm hf hM0 n (i+1) _ M2 T3 (hR.trans hr.2.1) hr.2.2 ⟨by have:=hr.1.1;rw [List.length_append];omega,fun y hy=>?_⟩ (by omega) (by omega)
    rcases List.mem_append.1 hy with hy | hy
    · exact ho.2 y hy
    · exact hr.1.2 y hy
  have hJ5:kI (yw fu (lF fu) (mV fu) (nu fu) (4 - j) M.g k) (oK (fun b=>b=true→1≤j) O):=by
    unfold yw
    exact .ite (fun _=>.ite (fun _=>.go fun z=>by omega) fun _=>.go fun z=>(by cases z)) fun _=>.go fun z=>(by cases z)
  refine .Cv hJ5 fun b hz=>.ite (fun z=>?_) fun _=>?_
  · obtain ⟨j,rfl⟩:∃ j',j=j'+1:=⟨j - 1,by have:=hz z;omega⟩
    refine .bp (hb.at' (M:=xH M) (j:=j) (most:=4) hdn h1.2 (by omega) (by omega) (by omega) (by rw [lD (by omega) (by omega)];omega) rfl) fun l r hr=>.pp hr fun M2 T3 hr=>?_
    obtain ⟨hl1,hr2,hT3⟩:=hr
    obtain ⟨a1,a2,a3,a4,a5,a6,a7,a8,a9,a10,a11⟩:=id hr2
    dsimp only [xH] at a4 a5 a6 a7
    obtain ⟨c1,c2,c3,c4,c5,c6,c7⟩:=id hM
    refine .bp (Kg (by omega) (by omega) (by omega)) fun s M3 h3=>?_
    obtain ⟨h3,rfl⟩:=h3
    dsimp only
    refine .bd (.app (by simp only [List.length_cons,List.length_nil];omega)) fun r hr=>?_
    have hR4:Mr M ⟨M2.f,M2.e,M2.b,r,M2.d,M2.c,M2.g+1,M2.h⟩:=by
      subst hr
      exact ⟨a1,a2,a3,⟨by dsimp only;rw [jY];omega,by dsimp only;rw [Gj];omega⟩,by dsimp only;omega,by dsimp only;omega,by dsimp only;omega,a8,pq a9 h3,a10,a11⟩
    refine .bp (hb.at' (j:=j) (most:=3) (hR4.mp hM) hT3 (by omega) (by omega) (by omega) (by rw [lD (by omega) (by omega)];omega) rfl) fun l2 r2 hr5=>.pp hr5 fun M5 T5 hr5=>?_
    obtain ⟨hl5,hR5,hT5⟩:=hr5
    obtain ⟨e1,e2,e3,e4,e5,e6,e7,e8,e9,e10,e11⟩:=id hR5
    dsimp only at e1 e2 e3 e4 e5 e6 e7
    have hrl:r.length=M2.a.length+1:=by rw [hr,jY]
    rw [lD (by omega) (by omega)]
    refine .bd (.sl ⟨Int.le_refl _,by omega,by omega⟩) fun l3 hl3=>.bd (.app (by
      rw [hl3]
      simp only [List.length_nil,List.length_take,List.length_drop]
      omega)) fun r3 hr3=>?_
    have hq:r3=M5.a.take (M5.a.length - 1):=by
      rw [hr3,hl3,List.nil_append]
      have:((M5.a.length:Int) - 1 - 0).toNat=M5.a.length - 1:=by omega
      rw [this]
      simp
    have hq2:r3.length=M5.a.length - 1:=by rw [hq,List.length_take];omega
    exact go _ ⟨M5.f,M5.e,M5.b,r3,M5.d,M5.c,M5.g,M5.h⟩ T5 (GS.mk h3 b0 b0 z9 nK nK (Qn hl1 (by decide)) (Qn hl5 (by decide))) ⟨e1.trans a1,e2.trans a2,e3.trans a3,by dsimp only;omega,by dsimp only;omega,by dsimp only;omega,by dsimp only;omega,e8,fun x hx=>e9 x (by rw [hq] at hx;exact List.mem_of_mem_take hx),e10,e11⟩ hT5
  refine .ite (fun _=>?_) fun _=>?_
  · refine .bp (Cj (M:=xH M) (by omega) hdn h1.2 (by decide) (by decide)) fun x r hx=>.pp hx fun M1 T2 hx=>?_
    obtain ⟨hx1,rfl,hx3⟩:=hx
    exact go _ (xH M) T2 (GS.mk b0 b0 b0 z9 nK (BK hx1 (by decide)) nK nK) hd hx3
  have hJ6:kI (xO fu (lF fu) (mV fu) (nu fu) k T1) (oK (fun r=>iA r fun _ r=>iA r fun l a=>TQ ⟨l,a⟩) O):=by
    unfold xO
    exact .ite (fun _=>.bp (qQ h1.2 (by decide) (by decide)) fun v T2 h2=>.go h2.2) fun _=>.go h1.2
  refine .Cv hJ6 fun r hr=>.pp hr fun b r hr=>.pp hr fun tl ta hT2=>.ite (fun _=>?_) fun _=>?_
  · have hJ8:kI (yD fu (lF fu) (mV fu) (nu fu) M.f M.e M.b M.g M.h M.a M.d M.c tl ta) (oK (fun r=>iA r fun b r=>iA r fun ar r=>iA r fun kd r=>iA r fun ln r=>iA r fun id r=>iA r fun nm r=>iA r fun ty r=>iA r fun le r=>iA r fun vr r=>iA r fun tg r=>iA r fun fn r=>iA r fun ca r=>iA r fun bo r=>iA r fun el r=>iA r fun tl r=>iA r fun ta r=>iA r fun m1 r=>iA r fun m2 r=>iA r fun m3 r=>iA r fun m4 r=>iA r fun m5 r=>iA r fun m6 r=>iA r fun m7 m8=>GS 1 ⟨kd,ln,id,nm,ty,le,vr,tg,fn,ca,ar,bo,el⟩∧TQ ⟨tl,ta⟩∧(⟨m1,m2,m3,m6,m7,m8,m4,m5⟩:lK)=xH M) O):=by
      unfold yD
      rw [lD (n:=M.h - 1) (by omega) (by omega)]
      refine .bp (qQ hT2 (by decide) (by decide)) fun v T2 h2=>.ite (fun _=>.go ⟨GS.nil,h2.2,rfl⟩) fun _=>?_
      exact .bp (g_call (M:=xH M) (by omega) hdn h2.2 GS.nil rfl) fun b r hr=>.pp hr fun M' r hr=>.pp hr fun T2 x hr=>.go ⟨hr.2.2,hr.2.1,hr.1⟩
    have hJ7:kI (yC fu (lF fu) (mV fu) (nu fu) M.f M.e M.b M.g M.h M.a M.d M.c tl ta) (oK (fun r=>iA r fun ar r=>iA r fun kd r=>iA r fun ln r=>iA r fun id r=>iA r fun nm r=>iA r fun ty r=>iA r fun le r=>iA r fun vr r=>iA r fun tg r=>iA r fun fn r=>iA r fun ca r=>iA r fun bo r=>iA r fun el r=>iA r fun tl r=>iA r fun ta r=>iA r fun m1 r=>iA r fun m2 r=>iA r fun m3 r=>iA r fun m4 r=>iA r fun m5 r=>iA r fun m6 r=>iA r fun m7 m8=>GS 1 ⟨kd,ln,id,nm,ty,le,vr,tg,fn,ca,ar,bo,el⟩∧TQ ⟨tl,ta⟩∧(⟨m1,m2,m3,m6,m7,m8,m4,m5⟩:lK)=xH M) O):=by
      unfold yC
      refine .Cv hJ8 fun r hr=>.pp hr fun b r hr=>.pp hr fun ar r hr=>.pp hr fun kd r hr=>.pp hr fun ln r hr=>.pp hr fun id r hr=>.pp hr fun nm r hr=>.pp hr fun ty r hr=>.pp hr fun le r hr=>.pp hr fun vr r hr=>.pp hr fun tg r hr=>.pp hr fun fn r hr=>.pp hr fun ca r hr=>.pp hr fun bo r hr=>.pp hr fun el r hr=>.pp hr fun tl r hr=>.pp hr fun ta r hr=>.pp hr fun m1 r hr=>.pp hr fun m2 r hr=>.pp hr fun m3 r hr=>.pp hr fun m4 r hr=>.pp hr fun m5 r hr=>.pp hr fun m6 r hr=>.pp hr fun m7 m8 hr=>?_
      refine .ite (fun _=>?_) fun _=>.go hr
      rw [hr.2.2]
      exact .bp (Cj (by omega) hdn hr.2.1 (by decide) (by decide)) fun x r hx=>.pp hx fun M1 T2 hx=>.go ⟨GS.mk b0 b0 b0 z9 nK (BK hx.1 (by decide)) nK nK,hx.2.2,hx.2.1⟩
    refine .Cv hJ7 fun r hr=>.pp hr fun ar r hr=>.pp hr fun kd r hr=>.pp hr fun ln r hr=>.pp hr fun id r hr=>.pp hr fun nm r hr=>.pp hr fun ty r hr=>.pp hr fun le r hr=>.pp hr fun vr r hr=>.pp hr fun tg r hr=>.pp hr fun fn r hr=>.pp hr fun ca r hr=>.pp hr fun bo r hr=>.pp hr fun el r hr=>.pp hr fun tl r hr=>.pp hr fun ta r hr=>.pp hr fun m1 r hr=>.pp hr fun m2 r hr=>.pp hr fun m3 r hr=>.pp hr fun m4 r hr=>.pp hr fun m5 r hr=>.pp hr fun m6 r hr=>.pp hr fun m7 m8 hr=>?_
    exact go _ ⟨m1,m2,m3,m6,m7,m8,m4,m5⟩ ⟨tl,ta⟩ (hr.1.mono (by omega)) (by rw [hr.2.2];exact hd) hr.2.1
  have hJ9:kI (xP fu (lF fu) (mV fu) (nu fu) k tl ta) (oK (fun r=>iA r fun _ r=>iA r fun l a=>TQ ⟨l,a⟩) O):=by
    unfold xP
    exact .ite (fun _=>.bp (qQ hT2 (by decide) (by decide)) fun v T2 h2=>.go h2.2) fun _=>.go hT2
  refine .Cv hJ9 fun r hr=>.pp hr fun b r hr=>.pp hr fun tl ta hT3=>.ite (fun _=>?_) fun _=>?_
  · refine .bp (Cj (M:=xH M) (by omega) hdn hT3 (by decide) (by decide)) fun x r hx=>.pp hx fun M1 T2 hx=>?_
    obtain ⟨hx1,rfl,hx3⟩:=hx
    exact go _ (xH M) T2 (GS.mk b0 b0 b0 z9 nK (BK hx1 (by decide)) nK nK) hd hx3
  have hJ10:kI (wT fu (lF fu) (mV fu) (nu fu) (4 - j) k tl ta) (oK (fun r=>iA r fun b r=>iA r fun l a=>(b=true→1≤j)∧TQ ⟨l,a⟩) O):=by
    unfold wT
    refine .ite (fun _=>.bp (qQ hT3 (by decide) (by decide)) fun v T2 h2=>.ite (fun _=>.go ⟨fun z=>by have:=of_decide_eq_true z;omega,h2.2⟩) fun _=>.go ⟨fun z=>(by cases z),h2.2⟩) fun _=>.go ⟨fun z=>(by cases z),hT3⟩
  refine .Cv hJ10 fun r hr=>.pp hr fun b r hr=>.pp hr fun tl ta hr=>.ite (fun z=>?_) fun _=>?_
  · obtain ⟨hz,hT4⟩:=hr
    obtain ⟨j,rfl⟩:∃ j',j=j'+1:=⟨j - 1,by have:=hz z;omega⟩
    refine .bp (Cj (M:=xH M) (by omega) hdn hT4 (by decide) (by decide)) fun x r hx=>.pp hx fun M1 T2 hx=>?_
    obtain ⟨hx1,rfl,hx3⟩:=hx
    refine .bp (hb.at' (j:=j) (most:=3) hdn hx3 (by omega) (by omega) (by omega) (by rw [lD (by omega) (by omega)];omega) rfl) fun l r hr=>.pp hr fun M2 T3 hr=>?_
    exact go _ M2 T3 (GS.mk b0 b0 b0 z9 nK (BK hx1 (by decide)) (Qn hr.1 (by decide)) nK) (hd.trans hr.2.1) hr.2.2
  · refine .bp (O9 (M:=xH M) (by omega) hdn hr.2) fun x r hx=>.pp hx fun M1 T2 hx=>?_
    obtain ⟨hx1,rfl,hx3⟩:=hx
    exact go x (xH M) T2 (hx1.mono (by omega)) hd hx3
theorem LC:∀ (fu:Nat),VM fu∧Ti fu∧VD fu
 | 0=>⟨fun _ _ _ _ _ _ _ _ h=>by omega,fun _ _ _ _ _ _ _ _ h=>by omega,fun _ _ _ _ _ _ _ h=>by omega⟩
 | fu+1=>by
  have ih:=LC fu
  refine ⟨?_,Rn ih.1,Rx ih.2.1⟩
  intro M T j most hM hT hj hm hf
  show kI (zz fu (lF fu) (mV fu) (nu fu) M T _ _) _
  unfold zz
  refine .el (Dk ih.2.1 ih.2.2 hj hm (by omega) hM (O:=fun _=>False) fu 0 [] M T (Mr.rfl' hM) hT nK (by omega) (by omega)) (fun r hr=>?_) fun _ z=>z.elim
  exact .pp hr fun b1 r hr=>.pp hr fun b1 r hr=>.pp hr fun b1 r hr=>.pp hr fun b1 r hr=>.pp hr fun b1 r hr=>.pp hr fun b1 r hr=>.pp hr fun b1 r hr=>.pp hr fun b1 r hr=>.pp hr fun b1 r hr=>.pp hr fun b1 r hr=>.pp hr fun b1 b2 hr=>.mk hr
theorem MV {fu:Nat} (hf:40≤fu) {M:lK} {T:jR} (hM:MP M) (hT:TQ T) {most:Nat} (hm:most≤10):kI (lF fu M T 1 most) (SP (2 * most) 4 M):=(LC fu).1 M T 3 most hM hT (by decide) hm (by omega)
end Go.Proofs.Ytfglbdkfnphjgaa
set_option linter.unusedVariables false
set_option linter.unusedSimpArgs false
namespace Go.Proofs.Ytfglbdkfnphjgaa
open Go.RowKit Go.Fw
structure GF (f:kC):Prop where
 name:f.a.size≤4
 b:f.b.length≤4∧∀ x ∈ f.b,x.size≤4
 body:f.f.length≤22∧∀ y ∈ f.f,GS 4 y
structure VF (p:jJ):Prop where
 recs:p.a=[⟨⟨#[80]⟩,[⟨#[120]⟩,⟨#[121]⟩]⟩]
 e:1≤p.b.length∧p.b.length≤4
 el:∀ f ∈ p.b,GF f
theorem Nl:∀ x ∈ ([(⟨#[97]⟩:ByteArray),(⟨#[98]⟩:ByteArray),(⟨#[99]⟩:ByteArray),(⟨#[100]⟩:ByteArray)]:List ByteArray),x.size≤4:=by
 intro x hx
 simp only [List.mem_cons,List.not_mem_nil,or_false] at hx
 rcases hx with rfl | rfl | rfl | rfl <;> decide
theorem P7 {k:Nat} (x:ByteArray) (h:([(⟨#[102]⟩:ByteArray),(⟨#[103]⟩:ByteArray),(⟨#[104]⟩:ByteArray),(⟨#[107]⟩:ByteArray)]:List ByteArray)[k]?=some x):x.size≤4:=IW x (List.mem_of_getElem? h)
theorem DW {fu:Nat} (hf:40≤fu) {a b c d:Int} (ha:0≤a∧a < 4) (hb:0≤b∧b < 3) (hc:0≤c∧c < 4) (hd:0≤d∧d < 5) {O:jJ→Prop}:∀ (n i:Nat) (out:List kC) (T:jR),TQ T→out.length=i→(i:Int)≤1+a→6≤n+i→(∀ f ∈ out,GF f)→
  kI (sK fu a b c d n i out T.l T.a) (oK (fun r=>iA r fun _ r=>iA r fun o r=>iA r fun _ _=>(1≤o.length∧o.length≤4)∧∀ f ∈ o,GF f) O)
 | 0,i,out,T,hT,h1,h2,h3,h4=>by omega
 | n+1,i,out,T,hT,h1,h2,h3,h4=>by
  rw [sK,lD (n:=1+a) (by omega) (by omega)]
  refine .ite (fun k=>?_) fun k=>.go ⟨by omega,h4⟩
  have hps:([2,b,c,d]:List Int).length=4∧∀ p ∈ ([2,b,c,d]:List Int),0≤p∧p≤4:=⟨rfl,fun p hp=>by
   simp only [List.mem_cons,List.not_mem_nil,or_false] at hp
   omega⟩
  refine .bd (.ix (by omega) (by rw [hps.1];omega)) fun p hp=>?_
  have hp4:=hps.2 p (List.mem_of_getElem? hp)
  refine .bd (.ix (by omega) (by simp only [List.length_cons,List.length_nil];omega)) fun nm hnm=>?_
  refine .bd (.sl ⟨Int.le_refl _,hp4.1,by simp only [List.length_cons,List.length_nil];omega⟩) fun l hl=>?_
  have hll:l.length≤4∧∀ x ∈ l,x.size≤4:=by
   subst hl
   exact ⟨by rw [List.length_take];omega,fun x hx=>Nl x (List.mem_of_mem_drop (List.mem_of_mem_take hx))⟩
  refine .bd (.app (by simp only [List.length_nil];omega)) fun r hr=>?_
  rw [List.nil_append] at hr
  subst hr
  have hJ1:kI (ww fu i) (oK (fun s=>s=6 ∨ s=10) O):=by
   unfold ww
   exact .ite (fun _=>.go (.inl rfl)) fun _=>.go (.inr rfl)
  refine .Cv hJ1 fun s hs=>?_
  have hM:MP ⟨(i:Int),1+a,[2,b,c,d],r,[],[],0,22⟩:=⟨hps,by dsimp only;omega,⟨by dsimp only;omega,hll.2⟩,⟨(by decide:(0:Int)+22≤40),fun x hx=>(by cases hx)⟩,⟨(by decide:(0:Int)+22≤40),fun x hx=>(by cases hx)⟩,(by decide:(0:Int)≤0∧(0:Int)+22≤22),(by decide:(0:Int)≤22)⟩
  have hS:kI (lF fu ⟨(i:Int),1+a,[2,b,c,d],r,[],[],0,22⟩ T 1 s) (SP 20 4 ⟨(i:Int),1+a,[2,b,c,d],r,[],[],0,22⟩):=by
   rcases hs with rfl | rfl
   · exact (MV hf hM hT (most:=6) (by decide)).imp fun v hv=>⟨Qn hv.1 (by decide),hv.2⟩
   · exact MV hf hM hT (most:=10) (by decide)
  refine .bp hS fun bo q hq=>.pp hq fun M' T' hq=>?_
  obtain ⟨hq1,hq2,hq3⟩:=hq
  have hM':=hq2.mp hM
  have hJ2:kI (vZ fu bo M' T') (oK (fun r=>iA r fun o r=>iA r fun l a=>(o.length≤21∧∀ y ∈ o,GS 4 y)∧TQ ⟨l,a⟩) O):=by
   unfold vZ
   have k1:=hM'.ns.1;have k2:=hM'.l
   refine .ite (fun c=>?_) fun _=>.go ⟨Qn hq1 (by decide),hq3⟩
   refine .bp (qQ hq3 (by decide) (by decide)) fun v T2 h2=>.ite (fun _=>?_) fun _=>.go ⟨Qn hq1 (by decide),h2.2⟩
   refine Co h2.2 (by omega) (by omega) fun s T3 hs h3=>.bd (xg (hM'.ns.2 s hs)) fun x hx=>?_
   refine .bd (.app (by have:=hq1.1;simp only [List.length_cons,List.length_nil];omega)) fun r hr=>.go ⟨?_,h3⟩
   subst hr
   exact ⟨by rw [jY];have:=hq1.1;omega,pq hq1.2 (GS.mk b0 b0 b0 z9 nK (BK (hx.mono (by decide)) (by decide)) nK nK)⟩
  refine .Cv hJ2 fun r2 hr=>.pp hr fun o r2 hr=>.pp hr fun tl ta hr=>?_
  refine .bd (.app (by have:=hr.1.1;simp only [List.length_cons,List.length_nil];omega)) fun r84 hr84=>.bd (.app (by simp only [List.length_cons,List.length_nil];omega)) fun r90 hr90=>?_
  subst hr84 hr90
  rw [lD (by omega) (by omega)]
  refine DW hf ha hb hc hd n (i+1) _ ⟨tl,ta⟩ hr.2 (by rw [jY];omega) (by omega) (by omega) (pq h4 ⟨P7 nm hnm,hll,?_⟩)
  exact ⟨by dsimp only;rw [jY];have:=hr.1.1;omega,pq hr.1.2 (GS.nil.mono (by decide))⟩
theorem Nj {fu:Nat} (hf:40≤fu) {l:List Int} (hl:l.length≤1000):kI (wG fu l) VF:=by
 unfold wG
 refine .bp (qQ (T:=⟨l,0⟩) ⟨Int.le_refl _,by dsimp only;omega,hl⟩ (by decide) (by decide)) fun a T1 h1=>.bp (qQ h1.2 (by decide) (by decide)) fun b T2 h2=>.bp (qQ h2.2 (by decide) (by decide)) fun c T3 h3=>.bp (qQ h3.2 (by decide) (by decide)) fun d T4 h4=>?_
 refine .el (DW hf h1.1 h2.1 h3.1 h4.1 (O:=fun _=>False) fu 0 [] T4 h4.2 rfl (by omega) (by omega) fun f hf=>(by cases hf)) (fun r hr=>?_) fun _ z=>z.elim
 exact .pp hr fun _ r hr=>.pp hr fun o r hr=>.pp hr fun _ _ hr=>.mk ⟨rfl,hr.1,hr.2⟩
theorem P8 {fu:Nat} {l:List Int}:kI (zJ fu l) (fun r=>r.length≤200):=by
 unfold zJ
 refine .ite (fun c=>.bd (.sl ⟨by decide,by decide,by omega⟩) fun r hr=>.mk ?_) fun c=>.mk (by omega)
 rw [hr,List.length_take]
 omega
end Go.Proofs.Ytfglbdkfnphjgaa
