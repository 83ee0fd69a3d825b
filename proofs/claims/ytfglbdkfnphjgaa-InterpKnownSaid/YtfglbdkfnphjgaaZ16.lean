/- The maker of programs answers for any tape: expressions. -/
import Derived.Test.YtfglbdkfnphjgaaPf
import Derived.Test.YtfglbdkfnphjgaaLc
set_option linter.unusedVariables false
set_option linter.unusedSimpArgs false
namespace Go.Proofs.Ytfglbdkfnphjgaa
open Go.RowKit Go.Fw
structure TQ (T:jH):Prop where
 lo:0≤T.a
 hi:T.a≤T.l.length
 len:T.l.length≤1000
def GE:Nat→jA→Prop
 | 0,_=>False
 | d+1,x=>(x.b.size≤4∧x.d.size≤4∧0≤x.c∧x.c≤999999999999999999)∧x.a.length≤2∧∀ y ∈ x.a,GE d y
theorem GE.mono:∀ {n m:Nat} {x:jA},GE n x→n≤m→GE m x
 | 0,_,_,h,_=>h.elim
 | n+1,0,_,h,k=>by omega
 | n+1,m+1,x,h,k=>⟨h.1,h.2.1,fun y hy=>GE.mono (h.2.2 y hy) (by omega)⟩
structure MP (M:lG):Prop where
 d:M.d.length=4∧∀ p ∈ M.d,0≤p∧p≤4
 f:0≤M.f∧M.f < M.e∧M.e≤4
 ns:(M.a.length:Int)+M.h≤40∧∀ n ∈ M.a,n.size≤4
 np:(M.c.length:Int)+M.h≤40∧∀ n ∈ M.c,n.size≤4
 na:(M.b.length:Int)+M.h≤40∧∀ n ∈ M.b,n.size≤4
 c:0≤M.g∧M.g+M.h≤22
 l:0≤M.h
theorem TR {fu:Nat} {n k:Int} (h1:1≤k) (h2:k≤1000000000):kD (zm fu n k) (fun v=>0≤v∧v < k):=by
 unfold zm
 have e1:n.tmod k < k:=Int.tmod_lt_of_pos n (by omega)
 have e2:-k < n.tmod k:=by
  have h:=Int.natAbs_tmod n k
  have h3:n.natAbs % k.natAbs < k.natAbs:=Nat.mod_lt _ (by omega)
  omega
 rw [if_neg (by omega)]
 refine .ite (fun c=>.mk ?_) fun c=>.mk ⟨by omega,e1⟩
 rw [l5 (by omega) (by omega)]
 omega
theorem pI {fu:Nat} {T:jH} {k:Int} (h:TQ T) (h1:1≤k) (h2:k≤1000):kD (kC fu T k) (fun r=>jy r fun v T'=>(0≤v∧v < k)∧TQ T'):=by
 have h3:=h.lo;have h4:=h.hi;have h5:=h.len
 unfold kC
 refine .ite (fun c=>.mk ⟨⟨Int.le_refl _,by omega⟩,h⟩) fun c=>?_
 rw [l5 (n:=T.a+1) (by omega) (by omega),l5 (n:=T.a+1 - 1) (by omega) (by omega)]
 refine .bd (.ix (by omega) (by omega)) fun e _=>.bd (TR h1 (by omega)) fun v hv=>.mk ⟨hv,⟨by dsimp only;omega,by dsimp only;omega,h5⟩⟩
theorem WJ {fu:Nat} {T:jH}:kD (Aw fu T) (fun _=>True):=.mk trivial
theorem Bc {α:Type} {fu:Nat} {T:jH} {l:List α} {β:Type} {f:α→jH→Option β} {P:β→Prop} (h:TQ T) (h1:1≤l.length) (h2:l.length≤1000) (k:∀ x T',x ∈ l→TQ T'→kD (f x T') P):kD ((kC fu T ((l.length:Nat):Int)).bind fun r=>jy r fun v T'=>(ix l v).bind fun x=>f x T') P:=
 .bp (pI h (by omega) (by omega)) fun v T' hv=>.bd (.ix hv.1.1 hv.1.2) fun x hx=>k x T' (List.mem_of_getElem? hx) hv.2
theorem Qq {fu:Nat} {T:jH} (h:TQ T):kD (wm fu T) (fun r=>jy r fun v T'=>(0≤v∧v≤999999999999999999)∧TQ T'):=by
 unfold wm
 refine Bc h (by decide) (by decide) fun x T' hx hT=>.mk ⟨?_,hT⟩
 revert x
 decide
theorem BG {fu:Nat} {n:Int} (h:0≤n∧n≤999999999999999999):kD (rM fu n) (fun x=>GE 1 x):=.mk ⟨⟨Nat.zero_le _,Nat.zero_le _,h.1,h.2⟩,Nat.zero_le _,fun y hy=>(by cases hy)⟩
theorem vP {fu:Nat} {n:ByteArray} (h:n.size≤4):kD (nO fu n) (fun x=>GE 1 x):=.mk ⟨⟨h,Nat.zero_le _,(by decide:(0:Int)≤0),(by decide:(0:Int)≤999999999999999999)⟩,Nat.zero_le _,fun y hy=>(by cases hy)⟩
theorem EH:∀ (l:List Int) (r:ByteArray),(l.foldl (fun r n=>r.push (UInt8.ofNat n.toNat)) r).size=r.size+l.length
 | [],r=>rfl
 | x :: l,r=>by
  rw [List.foldl_cons,EH l,ByteArray.size_push,List.length_cons]
  omega
theorem O1 {l:List Dv}:(Zf l).size=l.length:=by
 unfold Zf Go.Fw.strOf
 rw [EH,List.length_map]
 exact Nat.zero_add _
theorem Br:∀ {d fu:Nat} {n:Int},0≤n→n < 10 ^ d→1≤d→d≤18→d≤fu→kD (rz fu n) (fun s=>s.size≤d)
 | 0,_,_,_,_,h,_,_=>by omega
 | d+1,0,_,_,_,_,_,h=>by omega
 | d+1,fu+1,n,h0,h1,_,h3,h4=>by
  show kD (wK fu (rz fu) n) _
  unfold wK
  rw [if_neg (by omega)]
  refine .ite (fun c=>.mk (by rw [O1];exact Nat.succ_le_succ (Nat.zero_le _))) fun c=>?_
  have hd:1≤d:=by
   rcases d with _ | d
   · omega
   · omega
  have e1:n.tdiv 10=n / 10:=Int.tdiv_eq_ediv_of_nonneg h0
  have e2:n.tmod 10=n % 10:=Int.tmod_eq_emod_of_nonneg h0
  have e3:n / 10 < 10 ^ d:=by
   rw [Int.pow_succ] at h1
   omega
  have e4:(10:Int) ^ d≤10 ^ 17:=by
   have h5:(10:Nat) ^ d≤10 ^ 17:=Nat.pow_le_pow_right (by decide) (by omega)
   exact_mod_cast h5
  rw [e1,e2,l5 (by omega) (by omega)]
  refine .bd (Br (d:=d) (by omega) e3 hd (by omega) (by omega)) fun s hs=>?_
  refine .bd (Br (d:=1) (by omega) (by omega) (by omega) (by omega) (by omega)) fun t ht=>?_
  refine .bd (.cat (by omega)) fun r hr=>.mk ?_
  rw [hr,Bb]
  omega
theorem Jg {fu:Nat} {M:lG} {T:jH} (hf:3≤fu) (h0:0≤M.g) (h1:M.g≤30):kD (uG fu M T) (fun r=>jy r fun s M'=>s.size≤4∧M'=⟨M.f,M.e,M.d,M.a,M.c,M.b,M.g+1,M.h⟩):=by
 unfold uG
 rw [l5 (by omega) (by omega)]
 refine .bd (Br (d:=2) (by omega) (by omega) (by omega) (by omega) (by omega)) fun s hs=>?_
 refine .bd (.cat (by have:(⟨#[118]⟩:ByteArray).size=1:=rfl;omega)) fun r hr=>.mk ⟨?_,rfl⟩
 have:(⟨#[118]⟩:ByteArray).size=1:=rfl
 rw [hr,Bb]
 omega
def XP (d:Nat) (M:lG) (r:jA × lG × jH):Prop:=jy r fun x r=>jy r fun M' T'=>GE d x∧M'=M∧TQ T'
theorem GE.mk1 {d:Nat} {op:Int} {n f:ByteArray} {y:jA} (h1:n.size≤4) (h2:f.size≤4) (h:GE d y):GE (d+1) ⟨op,0,0,n,f,[y]⟩:=⟨⟨h1,h2,(by decide:(0:Int)≤0),(by decide:(0:Int)≤999999999999999999)⟩,(by decide:1≤2),fun z hz=>by
 simp only [List.mem_cons,List.not_mem_nil,or_false] at hz
 subst hz
 exact h⟩
theorem GE.mk2 {d:Nat} {op:Int} {n f:ByteArray} {y y':jA} (h1:n.size≤4) (h2:f.size≤4) (h:GE d y) (h':GE d y'):GE (d+1) ⟨op,0,0,n,f,[y,y']⟩:=⟨⟨h1,h2,(by decide:(0:Int)≤0),(by decide:(0:Int)≤999999999999999999)⟩,(by decide:2≤2),fun z hz=>by
 simp only [List.mem_cons,List.not_mem_nil,or_false] at hz
 rcases hz with hz | hz <;> subst hz
 · exact h
 · exact h'⟩
theorem GE.ZN {d:Nat} {op:Int} {n f:ByteArray} (h1:n.size≤4) (h2:f.size≤4):GE (d+1) ⟨op,0,0,n,f,[]⟩:=⟨⟨h1,h2,(by decide:(0:Int)≤0),(by decide:(0:Int)≤999999999999999999)⟩,(by decide:0≤2),fun z hz=>by cases hz⟩
theorem IQ:∀ x ∈ ([(⟨#[120]⟩:ByteArray),(⟨#[121]⟩:ByteArray)]:List ByteArray),x.size≤4:=by
 intro x hx
 simp only [List.mem_cons,List.not_mem_nil,or_false] at hx
 rcases hx with rfl | rfl <;> decide
def UZ (fu:Nat):Prop:=∀ (M:lG) (T:jH) (e:Nat),MP M→TQ T→e≤3→2 * e+3≤fu→kD (l7 fu M T (3 - e)) (XP (e+1) M)
def ZL (fu:Nat):Prop:=∀ (M:lG) (T:jH) (e:Nat),MP M→TQ T→e≤2→2 * e+4≤fu→0 < M.b.length→kD (mX fu M T (3 - e)) (XP (e+2) M)
theorem UZ.dn {fu:Nat} (h:UZ fu) {M:lG} {T:jH} {e:Nat} {x:Int} (h1:MP M) (h2:TQ T) (h3:e≤3) (h4:2 * e+3≤fu) (hx:x=3 - e):kD (l7 fu M T x) (XP (e+1) M):=by subst hx;exact h M T e h1 h2 h3 h4
theorem Ms:∀ (fu:Nat),UZ fu∧ZL fu
 | 0=>⟨fun _ _ _ _ _ _ h=>by omega,fun _ _ _ _ _ _ h=>by omega⟩
 | fu+1=>by
  have ih:=Ms fu
  constructor
  · intro M T e hM hT he hf
    show kD (zK fu (l7 fu) (mX fu) M T _) _
    unfold zK
    have n1:=hM.ns;have n2:=hM.np;have n3:=hM.na;have hl:=hM.l
    refine .bp (pI hT (by decide) (by decide)) fun k T1 h1=>?_
    have hJ0:kD (xX fu (l7 fu) (mX fu) (3 - e) k) (oI (fun b=>b=false→1≤e) (fun _=>False)):=by
      unfold xX
      exact .ite (fun c=>.go fun z=>(by cases z)) fun c=>.go fun _=>by omega
    refine .el hJ0 (fun b hb=>?_) fun _ z=>z.elim
    refine .ite (fun _=>?_) fun hb0=>?_
    · exact .bp (Qq h1.2) fun v T2 h2=>.bd (BG h2.1) fun x hx=>.mk ⟨hx.mono (by omega),rfl,h2.2⟩
    have he1:1≤e:=hb (by simpa using hb0)
    have hJ1:kD (xY fu (l7 fu) (mX fu) M k) (oI (fun b=>b=true→0 < M.a.length) (fun _=>False)):=by
      unfold xY
      exact .ite (fun c=>.go fun z=>by have:=of_decide_eq_true z;omega) fun c=>.go fun z=>(by cases z)
    refine .el hJ1 (fun b hb=>?_) fun _ z=>z.elim
    refine .ite (fun hb0=>?_) fun hb0=>?_
    · have:=hb hb0
      exact Bc h1.2 (by omega) (by omega) fun s T2 hs h2=>.bd (vP (n1.2 s hs)) fun x hx=>.mk ⟨hx.mono (by omega),rfl,h2⟩
    have hJ2:kD (yt fu (l7 fu) (mX fu) M k) (oI (fun b=>b=true→0 < M.c.length) (fun _=>False)):=by
      unfold yt
      exact .ite (fun c=>.go fun z=>by have:=of_decide_eq_true z;omega) fun c=>.go fun z=>(by cases z)
    refine .el hJ2 (fun b hb=>?_) fun _ z=>z.elim
    refine .ite (fun hb0=>?_) fun hb0=>?_
    · have:=hb hb0
      exact Bc h1.2 (by omega) (by omega) fun s T2 hs h2=>.bp (pI h2 (by decide) (by decide)) fun v T3 h3=>.bd (.ix h3.1.1 h3.1.2) fun f hf=>.mk ⟨GE.ZN (n2.2 s hs) (IQ f (List.mem_of_getElem? hf)),rfl,h3.2⟩
    have hJ3:kD (x9 fu (l7 fu) (mX fu) M k) (oI (fun b=>b=true→0 < M.b.length) (fun _=>False)):=by
      unfold x9
      exact .ite (fun c=>.go fun z=>by have:=of_decide_eq_true z;omega) fun c=>.go fun z=>(by cases z)
    refine .el hJ3 (fun b hb3=>?_) fun _ z=>z.elim
    obtain ⟨e,rfl⟩:∃ e',e=e'+1:=⟨e - 1,by omega⟩
    have hw:wr ((3:Int) - ((e+1:Nat):Int)+1)=3 - (e:Int):=by rw [l5 (by omega) (by omega)];omega
    rw [hw]
    refine .ite (fun hb0=>?_) fun hb0=>?_
    · refine .bp (ih.2 M T1 e hM h1.2 (by omega) (by omega) (hb3 hb0)) fun x r hx=>.pp hx fun M' T' hx=>.mk ?_
      exact hx
    refine .ite (fun _=>?_) fun _=>?_
    · refine .bp (pI h1.2 (by decide) (by decide)) fun v T2 h2=>.bp (ih.1 M T2 e hM h2.2 (by omega) (by omega)) fun x r hx=>.pp hx fun M' T' hx=>.mk ⟨?_,hx.2⟩
      exact GE.mk1 (Nat.zero_le _) (Nat.zero_le _) hx.1
    · refine .bp (pI h1.2 (by decide) (by decide)) fun v T2 h2=>.bp (ih.1 M T2 e hM h2.2 (by omega) (by omega)) fun x r hx=>.pp hx fun M' T' hx=>?_
      obtain ⟨hx1,rfl,hx3⟩:=hx
      refine .bp (ih.1 M' T' e hM hx3 (by omega) (by omega)) fun y r hy=>.pp hy fun M2 T3 hy=>.mk ⟨?_,hy.2⟩
      exact GE.mk2 (Nat.zero_le _) (Nat.zero_le _) hx1 hy.1
  · intro M T e hM hT he hf ha
    show kD (vD fu (l7 fu) (mX fu) M T _) _
    unfold vD
    have n3:=hM.na;have hl:=hM.l
    refine Bc hT (by omega) (by omega) fun s T1 hs h1=>.bp (pI h1 (by decide) (by decide)) fun v T2 h2=>?_
    refine .ite (fun _=>?_) fun _=>?_
    · exact .bp (pI h2.2 (by decide) (by decide)) fun v3 T3 h3=>.bd (BG ⟨h3.1.1,by have:=h3.1.2;omega⟩) fun x hx=>.mk ⟨GE.mk1 (n3.2 s hs) (Nat.zero_le _) (hx.mono (by omega)),rfl,h3.2⟩
    · exact .bp (ih.1 M T2 e hM h2.2 (by omega) (by omega)) fun x r hx=>.pp hx fun M' T' hx=>.mk ⟨GE.mk1 (n3.2 s hs) (Nat.zero_le _) hx.1,hx.2⟩
theorem Bw {fu:Nat} (hf:9≤fu) {M:lG} {T:jH} (hM:MP M) (hT:TQ T) {d:Int} (h0:0≤d) (h3:d≤3):kD (l7 fu M T d) (XP 4 M):=by
 have h:=(Ms fu).1 M T (3 - d.toNat) hM hT (by omega) (by omega)
 rw [show (3:Int) - ((3 - d.toNat:Nat):Int)=d from by omega] at h
 exact h.imp fun v hv=>⟨hv.1.mono (by omega),hv.2⟩
theorem Ow {fu:Nat} (hf:8≤fu) {M:lG} {T:jH} (hM:MP M) (hT:TQ T) (ha:0 < M.b.length):kD (mX fu M T 1) (XP 4 M):=(Ms fu).2 M T 2 hM hT (by decide) (by omega) ha
end Go.Proofs.Ytfglbdkfnphjgaa
set_option linter.unusedVariables false
set_option linter.unusedSimpArgs false
namespace Go.Proofs.Ytfglbdkfnphjgaa
open Go.RowKit Go.Fw
def GS:Nat→jO→Prop
 | 0,_=>False
 | k+1,x=>(x.b.size≤4∧x.j.size≤4∧x.k.size≤4∧0≤x.m∧x.m≤9)∧(x.c.length≤1∧∀ y ∈ x.c,GE 4 y)∧(x.a.length≤4∧∀ y ∈ x.a,GE 4 y)∧(x.d.length≤9∧∀ y ∈ x.d,GS k y)∧(x.h.length≤9∧∀ y ∈ x.h,GS k y)
theorem GS.mono:∀ {n m:Nat} {x:jO},GS n x→n≤m→GS m x
 | 0,_,_,h,_=>h.elim
 | n+1,0,_,h,k=>by omega
 | n+1,m+1,x,h,k=>⟨h.1,h.2.1,h.2.2.1,⟨h.2.2.2.1.1,fun y hy=>GS.mono (h.2.2.2.1.2 y hy) (by omega)⟩,⟨h.2.2.2.2.1,fun y hy=>GS.mono (h.2.2.2.2.2 y hy) (by omega)⟩⟩
theorem GS.mk {j:Nat} {kd ln id len vr ca:Int} {nm ty fn:ByteArray} {tg ar:List jA} {bo el:List jO} (h1:nm.size≤4) (h2:ty.size≤4) (h3:fn.size≤4) (h4:0≤len∧len≤9) (h5:tg.length≤1∧∀ y ∈ tg,GE 4 y) (h6:ar.length≤4∧∀ y ∈ ar,GE 4 y) (h7:bo.length≤9∧∀ y ∈ bo,GS j y) (h8:el.length≤9∧∀ y ∈ el,GS j y):GS (j+1) ⟨kd,ln,id,nm,ty,len,vr,tg,fn,ca,ar,bo,el⟩:=⟨⟨h1,h2,h3,h4.1,h4.2⟩,h5,h6,h7,h8⟩
theorem z9:(0:Int)≤0∧(0:Int)≤9:=by decide
theorem b0:be.size≤4:=Nat.zero_le _
theorem RJ {α:Type} {p:α→Prop} {l:List α} {a b:Nat} (h:l.length≤a∧∀ y ∈ l,p y) (k:a≤b):l.length≤b∧∀ y ∈ l,p y:=⟨Nat.le_trans h.1 k,h.2⟩
structure Mr (M M':lG):Prop where
 f:M'.f=M.f
 fn:M'.e=M.e
 pr:M'.d=M.d
 s:M.a.length≤M'.a.length∧(M'.a.length:Int)+M'.h≤M.a.length+M.h
 p:M.c.length≤M'.c.length∧(M'.c.length:Int)+M'.h≤M.c.length+M.h
 a:M.b.length≤M'.b.length∧(M'.b.length:Int)+M'.h≤M.b.length+M.h
 c:M.g≤M'.g∧M'.g+M'.h≤M.g+M.h
 l:0≤M'.h
 n1:∀ n ∈ M'.a,n.size≤4
 n2:∀ n ∈ M'.c,n.size≤4
 n3:∀ n ∈ M'.b,n.size≤4
theorem Mr.mp {M M':lG} (k:Mr M M') (h:MP M):MP M':=by
 obtain ⟨a1,a2,a3,a4,a5,a6,a7,a8,a9,a10,a11⟩:=k
 obtain ⟨c1,c2,c3,c4,c5,c6,c7⟩:=h
 exact ⟨by rw [a3];exact c1,by rw [a1,a2];exact c2,⟨by omega,a9⟩,⟨by omega,a10⟩,⟨by omega,a11⟩,by omega,a8⟩
theorem Mr.rfl' {M:lG} (h:MP M):Mr M M:=⟨rfl,rfl,rfl,⟨Nat.le_refl _,Int.le_refl _⟩,⟨Nat.le_refl _,Int.le_refl _⟩,⟨Nat.le_refl _,Int.le_refl _⟩,⟨Int.le_refl _,Int.le_refl _⟩,h.l,h.ns.2,h.np.2,h.na.2⟩
theorem Mr.trans {M M' M2:lG} (k:Mr M M') (j:Mr M' M2):Mr M M2:=by
 obtain ⟨a1,a2,a3,a4,a5,a6,a7,a8,a9,a10,a11⟩:=k
 obtain ⟨c1,c2,c3,c4,c5,c6,c7,c8,c9,c10,c11⟩:=j
 exact ⟨c1.trans a1,c2.trans a2,c3.trans a3,by omega,by omega,by omega,by omega,c8,c9,c10,c11⟩
def wN (M:lG):lG:=⟨M.f,M.e,M.d,M.a,M.c,M.b,M.g,M.h - 1⟩
theorem Mr.dn {M:lG} (h:MP M) (h1:0 < M.h):Mr M (wN M):=⟨rfl,rfl,rfl,⟨Nat.le_refl _,by dsimp only [wN];omega⟩,⟨Nat.le_refl _,by dsimp only [wN];omega⟩,⟨Nat.le_refl _,by dsimp only [wN];omega⟩,⟨Int.le_refl _,by dsimp only [wN];omega⟩,by dsimp only [wN];omega,h.ns.2,h.np.2,h.na.2⟩
def SP (b k:Nat) (M:lG) (r:List jO × lG × jH):Prop:=jy r fun l r=>jy r fun M' T'=>(l.length≤b∧∀ y ∈ l,GS k y)∧Mr M M'∧TQ T'
def SX (M:lG) (r:jO × lG × jH):Prop:=jy r fun x r=>jy r fun M' T'=>GS 1 x∧M'=M∧TQ T'
theorem Hr:∀ x ∈ ([(⟨#[102]⟩:ByteArray),(⟨#[103]⟩:ByteArray),(⟨#[104]⟩:ByteArray),(⟨#[107]⟩:ByteArray)]:List ByteArray),x.size≤4:=by
 intro x hx
 simp only [List.mem_cons,List.not_mem_nil,or_false] at hx
 rcases hx with rfl | rfl | rfl | rfl <;> decide
theorem Hg {fu:Nat} (hf:9≤fu) {M:lG} (hM:MP M) {k p:Int} (hk:0≤k) (hp:M.d[k.toNat]?=some p) (hp4:p≤4) {O:Bool × lG × jH × jO→Prop}:∀ (n i:Nat) (T:jH) (out:List jA),TQ T→p+1≤n+i→(i:Int)≤4→(out.length=i∧∀ y ∈ out,GE 4 y)→1≤n→
  kD (tq fu k n i M.f M.e M.d M.g M.h T.l T.a M.a M.c M.b out) (oI (fun r=>jy r fun _ r=>jy r fun f r=>jy r fun fn r=>jy r fun pr r=>jy r fun c r=>jy r fun l r=>jy r fun tl r=>jy r fun ta r=>jy r fun s r=>jy r fun p r=>jy r fun a o=>(⟨f,fn,pr,s,p,a,c,l⟩:lG)=M∧TQ ⟨tl,ta⟩∧o.length≤4∧∀ y ∈ o,GE 4 y) O)
 | 0,_,_,_,_,_,_,_,h=>by omega
 | n+1,i,T,out,hT,hn,hi,ho,_=>by
  rw [tq]
  have hlt:=kT hp
  refine .QJ (.ix hk (by omega)) fun e _ he=>?_
  rw [hp] at he
  cases he
  refine .ite (fun c=>?_) fun _=>.go ⟨rfl,hT,by omega,ho.2⟩
  refine .bp (Bw hf hM hT (by decide) (by decide)) fun x r hx=>.pp hx fun M' T' hx=>?_
  obtain ⟨hx1,rfl,hx3⟩:=hx
  refine .QJ (.app (by simp only [List.length_cons,List.length_nil];omega)) fun r _ hr=>?_
  subst hr
  refine .bd (.ix (by omega) (by rw [kI];omega)) fun _ _=>.bd (.st ⟨by omega,by rw [kI];omega⟩) fun r hr=>?_
  rw [l5 (by omega) (by omega)]
  refine Hg hf hM hk hp hp4 n (i+1) T' r hx3 (by omega) (by omega) ⟨by rw [hr,List.length_set,kI,ho.1],fun y hy=>?_⟩ (by omega)
  rw [hr] at hy
  rcases List.mem_or_eq_of_mem_set hy with hy | hy
  · exact om ho.2 (GE.ZN (Nat.zero_le _) (Nat.zero_le _)) y hy
  · rw [hy];exact hx1
theorem g_call {fu:Nat} (hf:9≤fu) {M:lG} {T:jH} (hM:MP M) (hT:TQ T) {x:jO} (hx:GS 1 x) (ha:x.a=[]):kD (xL fu M T x) (fun r=>jy r fun b r=>jy r fun M' r=>jy r fun T' x'=>M'=M∧TQ T'∧GS 1 x'):=by
 unfold xL
 obtain ⟨f1,f2,f3⟩:=hM.f
 have hJ:kD (yg fu M T x) (oI (fun r=>jy r fun k r=>jy r fun l a=>(0≤k∧k < 4)∧TQ ⟨l,a⟩) (fun r=>jy r fun b r=>jy r fun M' r=>jy r fun T' x'=>M'=M∧TQ T'∧GS 1 x')):=by
  unfold yg
  rw [l5 (n:=M.f+1) (by omega) (by omega)]
  refine .ite (fun c=>?_) fun c=>?_
  · rw [l5 (by omega) (by omega)]
    refine .bp (pI hT (by omega) (by omega)) fun v T1 h1=>.go ⟨?_,h1.2⟩
    rw [l5 (by omega) (by omega)]
    omega
  · refine .bp (pI hT (by decide) (by decide)) fun v T1 h1=>.ite (fun _=>.out ⟨rfl,h1.2,hx⟩) fun _=>?_
    exact .bp (pI h1.2 (by omega) (by omega)) fun v T2 h2=>.go ⟨by omega,h2.2⟩
 refine .el hJ (fun r hr=>.pp hr fun k r hr=>.pp hr fun tl ta hr=>?_) fun o ho=>.mk ho
 refine .bd (.ix hr.1.1 hr.1.2) fun fn hfn=>?_
 obtain ⟨p,hp⟩:=lY (l:=M.d) (k:=k.toNat) (by rw [hM.d.1];omega)
 have hp4:=hM.d.2 p (List.mem_of_getElem? hp)
 rw [ha]
 refine .el (Hg hf hM hr.1.1 hp hp4.2 (O:=fun _=>False) fu 0 ⟨tl,ta⟩ [] hr.2 (by omega) (by omega) ⟨rfl,fun y hy=>(by cases hy)⟩ (by omega)) (fun r hr=>?_) fun _ z=>z.elim
 refine .pp hr fun a1 r hr=>.pp hr fun a1 r hr=>.pp hr fun a1 r hr=>.pp hr fun a1 r hr=>.pp hr fun a1 r hr=>.pp hr fun a1 r hr=>.pp hr fun a1 r hr=>.pp hr fun a1 r hr=>.pp hr fun a1 r hr=>.pp hr fun a1 r hr=>.pp hr fun a1 a2 hr=>.mk ⟨hr.1,hr.2.1,?_⟩
 exact GS.mk hx.1.1 hx.1.2.1 (Hr fn (List.mem_of_getElem? hfn)) ⟨hx.1.2.2.2.1,hx.1.2.2.2.2⟩ hx.2.1 hr.2.2 hx.2.2.2.1 hx.2.2.2.2
theorem FI {l:List ByteArray} {x:ByteArray}:((l ++ [x]).length:Int)=l.length+1:=by rw [kI];omega
theorem NN {fu:Nat} (hf:9≤fu) {M:lG} {T:jH} (hM:MP M) (hl:0 < M.h) (hT:TQ T):kD (vE fu (wN M) T) (fun r=>jy r fun x r=>jy r fun M' T'=>GS 1 x∧Mr M M'∧TQ T'):=by
 unfold vE
 obtain ⟨c1,c2,c3,c4,c5,c6,c7⟩:=hM
 refine .bp (Jg (M:=wN M) (by omega) c6.1 (by show M.g≤30;omega)) fun s M1 h1=>.bp (pI hT (by decide) (by decide)) fun v T1 h2=>?_
 obtain ⟨h1,rfl⟩:=h1
 have n1:=c3.1;have n2:=c4.1;have n3:=c5.1
 refine .ite (fun _=>?_) fun _=>.ite (fun _=>?_) fun _=>?_
 · refine .bd (.app (by show M.c.length+1≤_;omega)) fun r hr=>.mk ⟨GS.mk h1 (by decide) b0 z9 mK mK mK mK,?_,h2.2⟩
   subst hr
   exact ⟨rfl,rfl,rfl,⟨Nat.le_refl _,by show _+(M.h - 1)≤_;exact (by dsimp only [wN];omega)⟩,⟨by dsimp only [wN];rw [kI];omega,by dsimp only [wN];rw [FI];omega⟩,⟨Nat.le_refl _,by dsimp only [wN];omega⟩,⟨by dsimp only [wN];omega,by dsimp only [wN];omega⟩,by dsimp only [wN];omega,c3.2,om c4.2 h1,c5.2⟩
 · refine .bd (.app (by show M.b.length+1≤_;omega)) fun r hr=>.mk ⟨GS.mk h1 b0 b0 (by decide) mK mK mK mK,?_,h2.2⟩
   subst hr
   exact ⟨rfl,rfl,rfl,⟨Nat.le_refl _,by dsimp only [wN];omega⟩,⟨Nat.le_refl _,by dsimp only [wN];omega⟩,⟨by dsimp only [wN];rw [kI];omega,by dsimp only [wN];rw [FI];omega⟩,⟨by dsimp only [wN];omega,by dsimp only [wN];omega⟩,by dsimp only [wN];omega,c3.2,c4.2,om c5.2 h1⟩
 · refine .bd (.app (by show M.a.length+1≤_;omega)) fun r hr=>.mk ⟨GS.mk h1 b0 b0 z9 mK mK mK mK,?_,h2.2⟩
   subst hr
   exact ⟨rfl,rfl,rfl,⟨by dsimp only [wN];rw [kI];omega,by dsimp only [wN];rw [FI];omega⟩,⟨Nat.le_refl _,by dsimp only [wN];omega⟩,⟨Nat.le_refl _,by dsimp only [wN];omega⟩,⟨by dsimp only [wN];omega,by dsimp only [wN];omega⟩,by dsimp only [wN];omega,om c3.2 h1,c4.2,c5.2⟩
theorem GS.nil {kd:Int}:GS 1 ⟨kd,0,0,be,be,0,0,[],be,0,[],[],[]⟩:=GS.mk b0 b0 b0 z9 mK mK mK mK
theorem OU {fu:Nat} (hf:9≤fu) {M:lG} {T:jH} (hM:MP M) (hT:TQ T):kD (wB fu M T) (SX M):=by
 unfold wB
 obtain ⟨n1,m1⟩:=hM.ns;obtain ⟨n2,m2⟩:=hM.np;obtain ⟨n3,m3⟩:=hM.na;have hl:=hM.l
 refine .bp (pI hT (by decide) (by decide)) fun k T1 h1=>?_
 have hJ0:kD (vF fu M k T1) (oI (fun r=>jy r fun _ r=>jy r fun tl r=>jy r fun ta r=>jy r fun _ r=>jy r fun _ r=>jy r fun _ r=>jy r fun _ r=>jy r fun _ r=>jy r fun _ r=>jy r fun _ r=>jy r fun _ r=>jy r fun _ r=>jy r fun _ r=>jy r fun _ r=>jy r fun _ r=>jy r fun f r=>jy r fun fn r=>jy r fun pr r=>jy r fun c r=>jy r fun l r=>jy r fun s r=>jy r fun p a=>(⟨f,fn,pr,s,p,a,c,l⟩:lG)=M∧TQ ⟨tl,ta⟩) (SX M)):=by
  unfold vF
  refine .ite (fun c=>?_) fun c=>.go ⟨rfl,h1.2⟩
  refine .bp (g_call hf hM h1.2 GS.nil rfl) fun b r hr=>.pp hr fun M' r hr=>.pp hr fun T2 x hr=>?_
  obtain ⟨rfl,h2,hx⟩:=hr
  refine .ite (fun _=>?_) fun _=>.go ⟨rfl,h2⟩
  refine .ite (fun c=>?_) fun _=>.out ⟨hx,rfl,h2⟩
  refine .bp (pI h2 (by decide) (by decide)) fun v T3 h3=>.ite (fun _=>?_) fun _=>.out ⟨hx,rfl,h3.2⟩
  refine Bc h3.2 (by omega) (by omega) fun s T4 hs h4=>.bd (vP (m1 s hs)) fun y hy=>.out ⟨?_,rfl,h4⟩
  exact GS.mk hx.1.1 hx.1.2.1 hx.1.2.2.1 ⟨hx.1.2.2.2.1,hx.1.2.2.2.2⟩ (len1 (hy.mono (by decide)) (by decide)) hx.2.2.1 hx.2.2.2.1 hx.2.2.2.2
 refine .el hJ0 (fun r hr=>?_) fun o ho=>.mk ho
 refine .pp hr fun a1 r hr=>.pp hr fun tl r hr=>.pp hr fun ta r hr=>.pp hr fun a1 r hr=>.pp hr fun a1 r hr=>.pp hr fun a1 r hr=>.pp hr fun a1 r hr=>.pp hr fun a1 r hr=>.pp hr fun a1 r hr=>.pp hr fun a1 r hr=>.pp hr fun a1 r hr=>.pp hr fun a1 r hr=>.pp hr fun a1 r hr=>.pp hr fun a1 r hr=>.pp hr fun a1 r hr=>.pp hr fun a1 r hr=>.pp hr fun a2 r hr=>.pp hr fun a3 r hr=>.pp hr fun a4 r hr=>.pp hr fun a5 r hr=>.pp hr fun a6 r hr=>.pp hr fun a7 a8 hr=>?_
 obtain ⟨rfl,hT2⟩:=hr
 dsimp only at n1 m1 n2 m2 n3 m3 hl
 have hJ1:kD (vL fu k tl ta a1 a2 a3 a4 a5 a6 a7 a8) (oI (fun r=>jy r fun tg r=>jy r fun tl r=>jy r fun ta r=>jy r fun f r=>jy r fun fn r=>jy r fun pr r=>jy r fun c r=>jy r fun l r=>jy r fun s r=>jy r fun p a=>(⟨f,fn,pr,s,p,a,c,l⟩:lG)=⟨a1,a2,a3,a6,a7,a8,a4,a5⟩∧TQ ⟨tl,ta⟩∧tg.length≤1∧∀ y ∈ tg,GE 4 y) (SX ⟨a1,a2,a3,a6,a7,a8,a4,a5⟩)):=by
  unfold vL
  have hJ2:kD (vJ fu k a7) (oI (fun b=>b=true→0 < a7.length) (SX ⟨a1,a2,a3,a6,a7,a8,a4,a5⟩)):=by
    unfold vJ
    exact .ite (fun c=>.go fun z=>by have:=of_decide_eq_true z;omega) fun c=>.go fun z=>(by cases z)
  refine .BI hJ2 fun b hb=>.ite (fun z=>?_) fun _=>?_
  · have:=hb z
    exact Bc hT2 (by omega) (by omega) fun s T3 hs h3=>.bp (pI h3 (by decide) (by decide)) fun v T4 h4=>.bd (.ix h4.1.1 h4.1.2) fun e he=>.go ⟨rfl,h4.2,len1 (GE.ZN (m2 s hs) (IQ e (List.mem_of_getElem? he))) (by decide)⟩
  have hJ3:kD (vH fu k a8) (oI (fun b=>b=true→0 < a8.length) (SX ⟨a1,a2,a3,a6,a7,a8,a4,a5⟩)):=by
    unfold vH
    exact .ite (fun c=>.go fun z=>by have:=of_decide_eq_true z;omega) fun c=>.go fun z=>(by cases z)
  refine .BI hJ3 fun b hb=>.ite (fun z=>?_) fun _=>.ite (fun c=>?_) fun _=>?_
  · refine .bp (Ow (by omega) hM hT2 (hb z)) fun x r hx=>.pp hx fun M' T' hx=>.go ⟨?_,hx.2.2,len1 hx.1 (by decide)⟩
    exact hx.2.1
  · exact Bc hT2 (by omega) (by omega) fun s T3 hs h3=>.bd (vP (m1 s hs)) fun y hy=>.go ⟨rfl,h3,len1 (hy.mono (by decide)) (by decide)⟩
  · exact .bp (Bw hf hM hT2 (by decide) (by decide)) fun x r hx=>.pp hx fun M' T' hx=>.out ⟨GS.mk b0 b0 b0 z9 mK (len1 hx.1 (by decide)) mK mK,hx.2⟩
 refine .el hJ1 (fun r hr=>?_) fun o ho=>.mk ho
 refine .pp hr fun tg r hr=>.pp hr fun tl r hr=>.pp hr fun ta r hr=>.pp hr fun b1 r hr=>.pp hr fun b2 r hr=>.pp hr fun b3 r hr=>.pp hr fun b4 r hr=>.pp hr fun b5 r hr=>.pp hr fun b6 r hr=>.pp hr fun b7 b8 hr=>?_
 obtain ⟨h1,h2,h3⟩:=hr
 rw [h1]
 exact .bp (Bw hf hM h2 (by decide) (by decide)) fun x r hx=>.pp hx fun M' T' hx=>.mk ⟨GS.mk b0 b0 b0 z9 h3 (len1 hx.1 (by decide)) mK mK,hx.2⟩
end Go.Proofs.Ytfglbdkfnphjgaa
set_option linter.unusedVariables false
set_option linter.unusedSimpArgs false
namespace Go.Proofs.Ytfglbdkfnphjgaa
open Go.RowKit Go.Fw
def Kst (fu:Nat):Prop:=∀ (M:lG) (T:jH) (j most:Nat),MP M→TQ T→j≤3→most≤10→4 * j+28≤fu→kD (lg fu M T (4 - j) most) (SP (2 * most) (j+1) M)
def WU (fu:Nat):Prop:=∀ (M:lG) (T:jH) (j most:Nat),MP M→TQ T→j≤3→most≤10→4 * j+29≤fu→kD (l6 fu M T (4 - j) most) (SP (2 * most) (j+1) M)
def Klo (fu:Nat):Prop:=∀ (M:lG) (T:jH) (j:Nat),MP M→0 < M.h→TQ T→j≤2→4 * j+30≤fu→kD (mg fu (wN M) T (4 - (j+1:Nat))) (SP 2 (j+2) M)
theorem WU.at' {fu:Nat} (h:WU fu) {M:lG} {T:jH} {j most:Nat} {x y:Int} (h1:MP M) (h2:TQ T) (h3:j≤3) (h4:most≤10) (h5:4 * j+29≤fu) (hx:x=4 - j) (hy:y=most):kD (l6 fu M T x y) (SP (2 * most) (j+1) M):=by subst hx;subst hy;exact h M T j most h1 h2 h3 h4 h5
theorem Um {fu:Nat} (ih:Kst fu):WU (fu+1):=by
 intro M T j most hM hT hj hm hf
 show kD (zy fu (lg fu) (l6 fu) (mg fu) M T _ _) _
 unfold zy
 refine .bp (ih M T j most hM hT hj hm (by omega)) fun l r hr=>.pp hr fun M' T' hr=>?_
 obtain ⟨h1,h2,h3⟩:=hr
 obtain ⟨a1,a2,a3,a4,a5,a6,a7,a8,a9,a10,a11⟩:=h2
 have b1:=hM.ns.1;have b2:=hM.np.1;have b3:=hM.na.1;have b4:=hM.l
 refine .bd (.sl ⟨Int.le_refl _,by omega,by omega⟩) fun l1 e1=>.bd (.sl ⟨Int.le_refl _,by omega,by omega⟩) fun l2 e2=>.bd (.sl ⟨Int.le_refl _,by omega,by omega⟩) fun l3 e3=>?_
 have tk:∀ {L l:List ByteArray} {n:Nat},l=(L.drop (0:Int).toNat).take ((n:Int) - 0).toNat→n≤L.length→(∀ x ∈ L,x.size≤4)→l.length=n∧∀ x ∈ l,x.size≤4:=by
  intro L l n e hn hL
  have e0:l=L.take n:=by rw [e];simp
  rw [e0]
  exact ⟨by rw [List.length_take];omega,fun x hx=>hL x (List.mem_of_mem_take hx)⟩
 have t1:=tk e1 a4.1 a9;have t2:=tk e2 a5.1 a10;have t3:=tk e3 a6.1 a11
 clear tk
 refine .bd (.app (by simp only [List.length_nil];omega)) fun r1 k1=>.bd (.app (by simp only [List.length_nil];omega)) fun r2 k2=>.bd (.app (by simp only [List.length_nil];omega)) fun r3 k3=>.mk ⟨h1,?_,h3⟩
 rw [List.nil_append] at k1 k2 k3
 subst k1 k2 k3
 exact ⟨a1,a2,a3,by dsimp only;omega,by dsimp only;omega,by dsimp only;omega,a7,a8,t1.2,t2.2,t3.2⟩
theorem UD {fu:Nat} (ih:WU fu):Klo (fu+1):=by
 intro M T j hM hl hT hj hf
 show kD (zo fu (lg fu) (l6 fu) (mg fu) (wN M) T _) _
 unfold zo
 obtain ⟨c1,c2,c3,c4,c5,c6,c7⟩:=id hM
 refine .bp (Jg (M:=wN M) (by omega) c6.1 (by show M.g≤30;omega)) fun s M1 h1=>?_
 obtain ⟨h1,rfl⟩:=h1
 have n1:=c3.1;have n2:=c4.1;have n3:=c5.1
 refine .bd (.app (by show M.a.length+1≤_;omega)) fun r hr=>.bd (vP h1) fun v hv=>.bp (pI hT (by decide) (by decide)) fun k T1 h2=>?_
 rw [l5 (n:=1+k) (by omega) (by omega)]
 refine .bd (BG ⟨by omega,by omega⟩) fun lt hlt=>?_
 have hR:Mr M ⟨(wN M).f,(wN M).e,(wN M).d,r,(wN M).c,(wN M).b,(wN M).g+1,(wN M).h⟩:=by
   subst hr
   exact ⟨rfl,rfl,rfl,⟨by dsimp only [wN];rw [kI];omega,by dsimp only [wN];rw [FI];omega⟩,⟨Nat.le_refl _,by dsimp only [wN];omega⟩,⟨Nat.le_refl _,by dsimp only [wN];omega⟩,⟨by dsimp only [wN];omega,by dsimp only [wN];omega⟩,by dsimp only [wN];omega,om c3.2 h1,c4.2,c5.2⟩
 refine .bp (ih.at' (j:=j) (most:=4) (hR.mp hM) h2.2 (by omega) (by omega) (by omega) (by rw [l5 (by omega) (by omega)];omega) rfl) fun l r hr=>.pp hr fun M' T' hr=>?_
 refine .bd (vP h1) fun v2 hv2=>.bd (vP h1) fun v3 hv3=>.bd (BG (by decide)) fun lo hlo=>?_
 refine .bd (.app (by have:=hr.1.1;simp only [List.length_cons,List.length_nil];omega)) fun r2 hr2=>.mk ⟨⟨Nat.le_refl _,?_⟩,hR.trans hr.2.1,hr.2.2⟩
 have hr2':r2.length≤9∧∀ y ∈ r2,GS (j+1) y:=by
   subst hr2
   refine ⟨by rw [kI];have:=hr.1.1;omega,om hr.1.2 ?_⟩
   exact GS.mk b0 b0 b0 z9 (len1 (hv2.mono (by decide)) (by decide)) (len1 ((GE.mk2 (Nat.zero_le _) (Nat.zero_le _) hv3 hlo).mono (by decide)) (by decide)) mK mK
 intro y hy
 simp only [List.mem_cons,List.not_mem_nil,or_false] at hy
 rcases hy with hy | hy <;> subst hy
 · exact GS.mk h1 b0 b0 z9 mK mK mK mK
 · exact GS.mk b0 b0 b0 z9 mK (len1 ((GE.mk2 (Nat.zero_le _) (Nat.zero_le _) hv hlt).mono (by decide)) (by decide)) hr2' mK
def SL (b k:Nat) (M:lG) (r:Int × List jO × Int × Int × List Int × Int × Int × List Int × Int × List ByteArray × List ByteArray × List ByteArray):Prop:=jy r fun _ r=>jy r fun o r=>jy r fun f r=>jy r fun fn r=>jy r fun pr r=>jy r fun c r=>jy r fun l r=>jy r fun tl r=>jy r fun ta r=>jy r fun s r=>jy r fun p a=>(o.length≤b∧∀ y ∈ o,GS k y)∧Mr M ⟨f,fn,pr,s,p,a,c,l⟩∧TQ ⟨tl,ta⟩
theorem XK {k i:Nat} {out:List jO} {x:jO} (h:out.length≤2 * i∧∀ y ∈ out,GS k y) (hx:GS k x):(out ++ [x]).length≤2 * (i+1)∧∀ y ∈ out ++ [x],GS k y:=⟨by rw [kI];omega,om h.2 hx⟩
theorem Co {fu:Nat} (hb:WU fu) (hl:Klo fu) {j most:Nat} (hj:j≤3) (hm:most≤10) (hf:4 * j+27≤fu) {M0:lG} (hM0:MP M0) {O:List jO × lG × jH→Prop}:∀ (n i:Nat) (out:List jO) (M:lG) (T:jH),Mr M0 M→TQ T→(out.length≤2 * i∧∀ y ∈ out,GS (j+1) y)→i≤most→most+1≤n+i→
  kD (lQ fu (lg fu) (l6 fu) (mg fu) (4 - j) most n i out M.f M.e M.d M.g M.h T.l T.a M.a M.c M.b) (oI (SL (2 * most) (j+1) M0) O)
 | 0,_,_,_,_,_,_,_,h,h2=>by omega
 | n+1,i,out,M,T,hR,hT,ho,hi,hn=>by
  have hM:=hR.mp hM0
  have fin:kD (some (Ld.go (ρ:=List jO × lG × jH) ((i:Int),out,M.f,M.e,M.d,M.g,M.h,T.l,T.a,M.a,M.c,M.b))) (oI (SL (2 * most) (j+1) M0) O):=.go ⟨RJ ho (by omega),hR,hT⟩
  rw [lQ]
  refine .ite (fun c=>?_) fun _=>fin
  refine .ite (fun hleft=>?_) fun _=>fin
  refine .bd WJ fun b _=>.ite (fun _=>?_) fun _=>fin
  clear fin
  have hlo:=hM.c;have hl0:=hM.l
  have olen:out.length≤20:=by omega
  rw [l5 (n:=(i:Int)+1) (by omega) (by omega),l5 (n:=M.h - 1) (by omega) (by omega)]
  have hd:=Mr.dn hM hleft
  have hdn:=hd.mp hM
  have go:∀ (x:jO) (M':lG) (T':jH),GS (j+1) x→Mr M M'→TQ T'→kD ((app out [x]).bind fun r=>lQ fu (lg fu) (l6 fu) (mg fu) (4 - j) most n ((i:Int)+1) r M'.f M'.e M'.d M'.g M'.h T'.l T'.a M'.a M'.c M'.b) (oI (SL (2 * most) (j+1) M0) O):=fun x M' T' hx k1 k2=>.bd (.app (by simp only [List.length_cons,List.length_nil];omega)) fun r hr=>by
    subst hr
    exact Co hb hl hj hm hf hM0 n (i+1) _ M' T' (hR.trans k1) k2 (XK ho hx) (by omega) (by omega)
  refine .bp (pI hT (by decide) (by decide)) fun k T1 h1=>?_
  have hJ1:kD (wM fu (lg fu) (l6 fu) (mg fu) M.g k) (oI (fun _=>True) O):=by
    unfold wM
    exact .ite (fun _=>.go trivial) fun _=>.go trivial
  refine .BI hJ1 fun b _=>.ite (fun _=>?_) fun _=>?_
  · exact .bp (NN (by omega) hM hleft h1.2) fun x r hx=>.pp hx fun M' T' hx=>go x M' T' (hx.1.mono (by omega)) hx.2.1 hx.2.2
  have hJ2:kD (wG fu (lg fu) (l6 fu) (mg fu) (4 - j) k) (oI (fun b=>b=true→1≤j) O):=by
    unfold wG
    exact .ite (fun _=>.go fun z=>by have:=of_decide_eq_true z;omega) fun _=>.go fun z=>(by cases z)
  refine .BI hJ2 fun b hz=>.ite (fun z=>?_) fun _=>?_
  · obtain ⟨j,rfl⟩:∃ j',j=j'+1:=⟨j - 1,by have:=hz z;omega⟩
    refine .bp (Bw (M:=wN M) (by omega) hdn h1.2 (by decide) (by decide)) fun x r hx=>.pp hx fun M1 T2 hx=>?_
    obtain ⟨hx1,rfl,hx3⟩:=hx
    refine .bp (hb.at' (j:=j) (most:=4) hdn hx3 (by omega) (by omega) (by omega) (by rw [l5 (by omega) (by omega)];omega) rfl) fun l r hr=>.pp hr fun M2 T3 hr=>?_
    obtain ⟨hl1,hr2,hT3⟩:=hr
    have hJ3:kD (wV fu (lg fu) (l6 fu) (mg fu) (4 - (j+1:Nat)) M2 T3) (oI (fun r=>jy r fun o r=>jy r fun f r=>jy r fun fn r=>jy r fun pr r=>jy r fun c r=>jy r fun l r=>jy r fun tl r=>jy r fun ta r=>jy r fun s r=>jy r fun p a=>(o.length≤9∧∀ y ∈ o,GS (j+1) y)∧Mr M ⟨f,fn,pr,s,p,a,c,l⟩∧TQ ⟨tl,ta⟩) O):=by
      unfold wV
      refine .bp (pI hT3 (by decide) (by decide)) fun v T4 h4=>.ite (fun _=>?_) fun _=>.go ⟨mK,hd.trans hr2,h4.2⟩
      exact .bp (hb.at' (j:=j) (most:=3) (hr2.mp hdn) h4.2 (by omega) (by omega) (by omega) (by rw [l5 (by omega) (by omega)];omega) rfl) fun l r hr=>.pp hr fun M3 T5 hr=>.go ⟨RJ hr.1 (by decide),(hd.trans hr2).trans hr.2.1,hr.2.2⟩
    refine .BI hJ3 fun r hr=>.pp hr fun o r hr=>.pp hr fun b1 r hr=>.pp hr fun b2 r hr=>.pp hr fun b3 r hr=>.pp hr fun b4 r hr=>.pp hr fun b5 r hr=>.pp hr fun b6 r hr=>.pp hr fun b7 r hr=>.pp hr fun b8 r hr=>.pp hr fun b9 b10 hr=>?_
    exact go _ ⟨b1,b2,b3,b8,b9,b10,b4,b5⟩ ⟨b6,b7⟩ (GS.mk b0 b0 b0 z9 mK (len1 hx1 (by decide)) (RJ hl1 (by decide)) hr.1) hr.2.1 hr.2.2
  have hJ4:kD (wH fu (lg fu) (l6 fu) (mg fu) (4 - j) M.g k) (oI (fun b=>b=true→1≤j) O):=by
    unfold wH
    exact .ite (fun _=>.ite (fun _=>.go fun z=>by omega) fun _=>.go fun z=>(by cases z)) fun _=>.go fun z=>(by cases z)
  refine .BI hJ4 fun b hz=>.ite (fun z=>?_) fun _=>?_
  · obtain ⟨j,rfl⟩:∃ j',j=j'+1:=⟨j - 1,by have:=hz z;omega⟩
    refine .bp (hl M T1 j hM hleft h1.2 (by omega) (by omega)) fun l r hr=>.pp hr fun M2 T3 hr=>?_
    refine .bd (.app (by have:=hr.1.1;omega)) fun r hr2=>?_
    subst hr2
    refine Co hb hl hj hm hf hM0 n (i+1) _ M2 T3 (hR.trans hr.2.1) hr.2.2 ⟨by have:=hr.1.1;rw [List.length_append];omega,fun y hy=>?_⟩ (by omega) (by omega)
    rcases List.mem_append.1 hy with hy | hy
    · exact ho.2 y hy
    · exact hr.1.2 y hy
  have hJ5:kD (wF fu (lg fu) (l6 fu) (mg fu) (4 - j) M.g k) (oI (fun b=>b=true→1≤j) O):=by
    unfold wF
    exact .ite (fun _=>.ite (fun _=>.go fun z=>by omega) fun _=>.go fun z=>(by cases z)) fun _=>.go fun z=>(by cases z)
  refine .BI hJ5 fun b hz=>.ite (fun z=>?_) fun _=>?_
  · obtain ⟨j,rfl⟩:∃ j',j=j'+1:=⟨j - 1,by have:=hz z;omega⟩
    refine .bp (hb.at' (M:=wN M) (j:=j) (most:=4) hdn h1.2 (by omega) (by omega) (by omega) (by rw [l5 (by omega) (by omega)];omega) rfl) fun l r hr=>.pp hr fun M2 T3 hr=>?_
    obtain ⟨hl1,hr2,hT3⟩:=hr
    obtain ⟨a1,a2,a3,a4,a5,a6,a7,a8,a9,a10,a11⟩:=id hr2
    dsimp only [wN] at a4 a5 a6 a7
    obtain ⟨c1,c2,c3,c4,c5,c6,c7⟩:=id hM
    refine .bp (Jg (by omega) (by omega) (by omega)) fun s M3 h3=>?_
    obtain ⟨h3,rfl⟩:=h3
    dsimp only
    refine .bd (.app (by simp only [List.length_cons,List.length_nil];omega)) fun r hr=>?_
    have hR4:Mr M ⟨M2.f,M2.e,M2.d,r,M2.c,M2.b,M2.g+1,M2.h⟩:=by
      subst hr
      exact ⟨a1,a2,a3,⟨by dsimp only;rw [kI];omega,by dsimp only;rw [FI];omega⟩,by dsimp only;omega,by dsimp only;omega,by dsimp only;omega,a8,om a9 h3,a10,a11⟩
    refine .bp (hb.at' (j:=j) (most:=3) (hR4.mp hM) hT3 (by omega) (by omega) (by omega) (by rw [l5 (by omega) (by omega)];omega) rfl) fun l2 r2 hr5=>.pp hr5 fun M5 T5 hr5=>?_
    obtain ⟨hl5,hR5,hT5⟩:=hr5
    obtain ⟨e1,e2,e3,e4,e5,e6,e7,e8,e9,e10,e11⟩:=id hR5
    dsimp only at e1 e2 e3 e4 e5 e6 e7
    have hrl:r.length=M2.a.length+1:=by rw [hr,kI]
    rw [l5 (by omega) (by omega)]
    refine .bd (.sl ⟨Int.le_refl _,by omega,by omega⟩) fun l3 hl3=>.bd (.app (by
      rw [hl3]
      simp only [List.length_nil,List.length_take,List.length_drop]
      omega)) fun r3 hr3=>?_
    have hq:r3=M5.a.take (M5.a.length - 1):=by
      rw [hr3,hl3,List.nil_append]
      have:((M5.a.length:Int) - 1 - 0).toNat=M5.a.length - 1:=by omega
      rw [this]
      simp
    have hq2:r3.length=M5.a.length - 1:=by rw [hq,List.length_take];omega
    exact go _ ⟨M5.f,M5.e,M5.d,r3,M5.c,M5.b,M5.g,M5.h⟩ T5 (GS.mk h3 b0 b0 z9 mK mK (RJ hl1 (by decide)) (RJ hl5 (by decide))) ⟨e1.trans a1,e2.trans a2,e3.trans a3,by dsimp only;omega,by dsimp only;omega,by dsimp only;omega,by dsimp only;omega,e8,fun x hx=>e9 x (by rw [hq] at hx;exact List.mem_of_mem_take hx),e10,e11⟩ hT5
  refine .ite (fun _=>?_) fun _=>?_
  · refine .bp (Bw (M:=wN M) (by omega) hdn h1.2 (by decide) (by decide)) fun x r hx=>.pp hx fun M1 T2 hx=>?_
    obtain ⟨hx1,rfl,hx3⟩:=hx
    exact go _ (wN M) T2 (GS.mk b0 b0 b0 z9 mK (len1 hx1 (by decide)) mK mK) hd hx3
  have hJ6:kD (wX fu (lg fu) (l6 fu) (mg fu) k T1) (oI (fun r=>jy r fun _ r=>jy r fun l a=>TQ ⟨l,a⟩) O):=by
    unfold wX
    exact .ite (fun _=>.bp (pI h1.2 (by decide) (by decide)) fun v T2 h2=>.go h2.2) fun _=>.go h1.2
  refine .BI hJ6 fun r hr=>.pp hr fun b r hr=>.pp hr fun tl ta hT2=>.ite (fun _=>?_) fun _=>?_
  · have hJ8:kD (wo fu (lg fu) (l6 fu) (mg fu) M.f M.e M.d M.g M.h M.a M.c M.b tl ta) (oI (fun r=>jy r fun b r=>jy r fun ar r=>jy r fun kd r=>jy r fun ln r=>jy r fun id r=>jy r fun nm r=>jy r fun ty r=>jy r fun le r=>jy r fun vr r=>jy r fun tg r=>jy r fun fn r=>jy r fun ca r=>jy r fun bo r=>jy r fun el r=>jy r fun tl r=>jy r fun ta r=>jy r fun m1 r=>jy r fun m2 r=>jy r fun m3 r=>jy r fun m4 r=>jy r fun m5 r=>jy r fun m6 r=>jy r fun m7 m8=>GS 1 ⟨kd,ln,id,nm,ty,le,vr,tg,fn,ca,ar,bo,el⟩∧TQ ⟨tl,ta⟩∧(⟨m1,m2,m3,m6,m7,m8,m4,m5⟩:lG)=wN M) O):=by
      unfold wo
      rw [l5 (n:=M.h - 1) (by omega) (by omega)]
      refine .bp (pI hT2 (by decide) (by decide)) fun v T2 h2=>.ite (fun _=>.go ⟨GS.nil,h2.2,rfl⟩) fun _=>?_
      exact .bp (g_call (M:=wN M) (by omega) hdn h2.2 GS.nil rfl) fun b r hr=>.pp hr fun M' r hr=>.pp hr fun T2 x hr=>.go ⟨hr.2.2,hr.2.1,hr.1⟩
    have hJ7:kD (wQ fu (lg fu) (l6 fu) (mg fu) M.f M.e M.d M.g M.h M.a M.c M.b tl ta) (oI (fun r=>jy r fun ar r=>jy r fun kd r=>jy r fun ln r=>jy r fun id r=>jy r fun nm r=>jy r fun ty r=>jy r fun le r=>jy r fun vr r=>jy r fun tg r=>jy r fun fn r=>jy r fun ca r=>jy r fun bo r=>jy r fun el r=>jy r fun tl r=>jy r fun ta r=>jy r fun m1 r=>jy r fun m2 r=>jy r fun m3 r=>jy r fun m4 r=>jy r fun m5 r=>jy r fun m6 r=>jy r fun m7 m8=>GS 1 ⟨kd,ln,id,nm,ty,le,vr,tg,fn,ca,ar,bo,el⟩∧TQ ⟨tl,ta⟩∧(⟨m1,m2,m3,m6,m7,m8,m4,m5⟩:lG)=wN M) O):=by
      unfold wQ
      refine .BI hJ8 fun r hr=>.pp hr fun b r hr=>.pp hr fun ar r hr=>.pp hr fun kd r hr=>.pp hr fun ln r hr=>.pp hr fun id r hr=>.pp hr fun nm r hr=>.pp hr fun ty r hr=>.pp hr fun le r hr=>.pp hr fun vr r hr=>.pp hr fun tg r hr=>.pp hr fun fn r hr=>.pp hr fun ca r hr=>.pp hr fun bo r hr=>.pp hr fun el r hr=>.pp hr fun tl r hr=>.pp hr fun ta r hr=>.pp hr fun m1 r hr=>.pp hr fun m2 r hr=>.pp hr fun m3 r hr=>.pp hr fun m4 r hr=>.pp hr fun m5 r hr=>.pp hr fun m6 r hr=>.pp hr fun m7 m8 hr=>?_
      refine .ite (fun _=>?_) fun _=>.go hr
      rw [hr.2.2]
      exact .bp (Bw (by omega) hdn hr.2.1 (by decide) (by decide)) fun x r hx=>.pp hx fun M1 T2 hx=>.go ⟨GS.mk b0 b0 b0 z9 mK (len1 hx.1 (by decide)) mK mK,hx.2.2,hx.2.1⟩
    refine .BI hJ7 fun r hr=>.pp hr fun ar r hr=>.pp hr fun kd r hr=>.pp hr fun ln r hr=>.pp hr fun id r hr=>.pp hr fun nm r hr=>.pp hr fun ty r hr=>.pp hr fun le r hr=>.pp hr fun vr r hr=>.pp hr fun tg r hr=>.pp hr fun fn r hr=>.pp hr fun ca r hr=>.pp hr fun bo r hr=>.pp hr fun el r hr=>.pp hr fun tl r hr=>.pp hr fun ta r hr=>.pp hr fun m1 r hr=>.pp hr fun m2 r hr=>.pp hr fun m3 r hr=>.pp hr fun m4 r hr=>.pp hr fun m5 r hr=>.pp hr fun m6 r hr=>.pp hr fun m7 m8 hr=>?_
    exact go _ ⟨m1,m2,m3,m6,m7,m8,m4,m5⟩ ⟨tl,ta⟩ (hr.1.mono (by omega)) (by rw [hr.2.2];exact hd) hr.2.1
  have hJ9:kD (xg fu (lg fu) (l6 fu) (mg fu) k tl ta) (oI (fun r=>jy r fun _ r=>jy r fun l a=>TQ ⟨l,a⟩) O):=by
    unfold xg
    exact .ite (fun _=>.bp (pI hT2 (by decide) (by decide)) fun v T2 h2=>.go h2.2) fun _=>.go hT2
  refine .BI hJ9 fun r hr=>.pp hr fun b r hr=>.pp hr fun tl ta hT3=>.ite (fun _=>?_) fun _=>?_
  · refine .bp (Bw (M:=wN M) (by omega) hdn hT3 (by decide) (by decide)) fun x r hx=>.pp hx fun M1 T2 hx=>?_
    obtain ⟨hx1,rfl,hx3⟩:=hx
    exact go _ (wN M) T2 (GS.mk b0 b0 b0 z9 mK (len1 hx1 (by decide)) mK mK) hd hx3
  have hJ10:kD (vM fu (lg fu) (l6 fu) (mg fu) (4 - j) k tl ta) (oI (fun r=>jy r fun b r=>jy r fun l a=>(b=true→1≤j)∧TQ ⟨l,a⟩) O):=by
    unfold vM
    refine .ite (fun _=>.bp (pI hT3 (by decide) (by decide)) fun v T2 h2=>.ite (fun _=>.go ⟨fun z=>by have:=of_decide_eq_true z;omega,h2.2⟩) fun _=>.go ⟨fun z=>(by cases z),h2.2⟩) fun _=>.go ⟨fun z=>(by cases z),hT3⟩
  refine .BI hJ10 fun r hr=>.pp hr fun b r hr=>.pp hr fun tl ta hr=>.ite (fun z=>?_) fun _=>?_
  · obtain ⟨hz,hT4⟩:=hr
    obtain ⟨j,rfl⟩:∃ j',j=j'+1:=⟨j - 1,by have:=hz z;omega⟩
    refine .bp (Bw (M:=wN M) (by omega) hdn hT4 (by decide) (by decide)) fun x r hx=>.pp hx fun M1 T2 hx=>?_
    obtain ⟨hx1,rfl,hx3⟩:=hx
    refine .bp (hb.at' (j:=j) (most:=3) hdn hx3 (by omega) (by omega) (by omega) (by rw [l5 (by omega) (by omega)];omega) rfl) fun l r hr=>.pp hr fun M2 T3 hr=>?_
    exact go _ M2 T3 (GS.mk b0 b0 b0 z9 mK (len1 hx1 (by decide)) (RJ hr.1 (by decide)) mK) (hd.trans hr.2.1) hr.2.2
  · refine .bp (OU (M:=wN M) (by omega) hdn hr.2) fun x r hx=>.pp hx fun M1 T2 hx=>?_
    obtain ⟨hx1,rfl,hx3⟩:=hx
    exact go x (wN M) T2 (hx1.mono (by omega)) hd hx3
theorem KO:∀ (fu:Nat),Kst fu∧WU fu∧Klo fu
 | 0=>⟨fun _ _ _ _ _ _ _ _ h=>by omega,fun _ _ _ _ _ _ _ _ h=>by omega,fun _ _ _ _ _ _ _ h=>by omega⟩
 | fu+1=>by
  have ih:=KO fu
  refine ⟨?_,Um ih.1,UD ih.2.1⟩
  intro M T j most hM hT hj hm hf
  show kD (yO fu (lg fu) (l6 fu) (mg fu) M T _ _) _
  unfold yO
  refine .el (Co ih.2.1 ih.2.2 hj hm (by omega) hM (O:=fun _=>False) fu 0 [] M T (Mr.rfl' hM) hT mK (by omega) (by omega)) (fun r hr=>?_) fun _ z=>z.elim
  exact .pp hr fun b1 r hr=>.pp hr fun b1 r hr=>.pp hr fun b1 r hr=>.pp hr fun b1 r hr=>.pp hr fun b1 r hr=>.pp hr fun b1 r hr=>.pp hr fun b1 r hr=>.pp hr fun b1 r hr=>.pp hr fun b1 r hr=>.pp hr fun b1 r hr=>.pp hr fun b1 b2 hr=>.mk hr
theorem Nt {fu:Nat} (hf:40≤fu) {M:lG} {T:jH} (hM:MP M) (hT:TQ T) {most:Nat} (hm:most≤10):kD (lg fu M T 1 most) (SP (2 * most) 4 M):=(KO fu).1 M T 3 most hM hT (by decide) hm (by omega)
end Go.Proofs.Ytfglbdkfnphjgaa
set_option linter.unusedVariables false
set_option linter.unusedSimpArgs false
namespace Go.Proofs.Ytfglbdkfnphjgaa
open Go.RowKit Go.Fw
structure GF (f:nK):Prop where
 name:f.b.size≤4
 d:f.a.length≤4∧∀ x ∈ f.a,x.size≤4
 body:f.d.length≤22∧∀ y ∈ f.d,GS 4 y
structure GPr (p:jW):Prop where
 recs:p.a=[⟨⟨#[80]⟩,[⟨#[120]⟩,⟨#[121]⟩]⟩]
 e:1≤p.b.length∧p.b.length≤4
 el:∀ f ∈ p.b,GF f
theorem Oe:∀ x ∈ ([(⟨#[97]⟩:ByteArray),(⟨#[98]⟩:ByteArray),(⟨#[99]⟩:ByteArray),(⟨#[100]⟩:ByteArray)]:List ByteArray),x.size≤4:=by
 intro x hx
 simp only [List.mem_cons,List.not_mem_nil,or_false] at hx
 rcases hx with rfl | rfl | rfl | rfl <;> decide
theorem Q5 {k:Nat} (x:ByteArray) (h:([(⟨#[102]⟩:ByteArray),(⟨#[103]⟩:ByteArray),(⟨#[104]⟩:ByteArray),(⟨#[107]⟩:ByteArray)]:List ByteArray)[k]?=some x):x.size≤4:=Hr x (List.mem_of_getElem? h)
theorem CG {fu:Nat} (hf:40≤fu) {a b c d:Int} (ha:0≤a∧a < 4) (hb:0≤b∧b < 3) (hc:0≤c∧c < 4) (hd:0≤d∧d < 5) {O:jW→Prop}:∀ (n i:Nat) (out:List nK) (T:jH),TQ T→out.length=i→(i:Int)≤1+a→6≤n+i→(∀ f ∈ out,GF f)→
  kD (qx fu a b c d n i out T.l T.a) (oI (fun r=>jy r fun _ r=>jy r fun o r=>jy r fun _ _=>(1≤o.length∧o.length≤4)∧∀ f ∈ o,GF f) O)
 | 0,i,out,T,hT,h1,h2,h3,h4=>by omega
 | n+1,i,out,T,hT,h1,h2,h3,h4=>by
  rw [qx,l5 (n:=1+a) (by omega) (by omega)]
  refine .ite (fun k=>?_) fun k=>.go ⟨by omega,h4⟩
  have hps:([2,b,c,d]:List Int).length=4∧∀ p ∈ ([2,b,c,d]:List Int),0≤p∧p≤4:=⟨rfl,fun p hp=>by
   simp only [List.mem_cons,List.not_mem_nil,or_false] at hp
   omega⟩
  refine .bd (.ix (by omega) (by rw [hps.1];omega)) fun p hp=>?_
  have hp4:=hps.2 p (List.mem_of_getElem? hp)
  refine .bd (.ix (by omega) (by simp only [List.length_cons,List.length_nil];omega)) fun nm hnm=>?_
  refine .bd (.sl ⟨Int.le_refl _,hp4.1,by simp only [List.length_cons,List.length_nil];omega⟩) fun l hl=>?_
  have hll:l.length≤4∧∀ x ∈ l,x.size≤4:=by
   subst hl
   exact ⟨by rw [List.length_take];omega,fun x hx=>Oe x (List.mem_of_mem_drop (List.mem_of_mem_take hx))⟩
  refine .bd (.app (by simp only [List.length_nil];omega)) fun r hr=>?_
  rw [List.nil_append] at hr
  subst hr
  have hJ1:kD (uP fu i) (oI (fun s=>s=6 ∨ s=10) O):=by
   unfold uP
   exact .ite (fun _=>.go (.inl rfl)) fun _=>.go (.inr rfl)
  refine .BI hJ1 fun s hs=>?_
  have hM:MP ⟨(i:Int),1+a,[2,b,c,d],r,[],[],0,22⟩:=⟨hps,by dsimp only;omega,⟨by dsimp only;omega,hll.2⟩,⟨(by decide:(0:Int)+22≤40),fun x hx=>(by cases hx)⟩,⟨(by decide:(0:Int)+22≤40),fun x hx=>(by cases hx)⟩,(by decide:(0:Int)≤0∧(0:Int)+22≤22),(by decide:(0:Int)≤22)⟩
  have hS:kD (lg fu ⟨(i:Int),1+a,[2,b,c,d],r,[],[],0,22⟩ T 1 s) (SP 20 4 ⟨(i:Int),1+a,[2,b,c,d],r,[],[],0,22⟩):=by
   rcases hs with rfl | rfl
   · exact (Nt hf hM hT (most:=6) (by decide)).imp fun v hv=>⟨RJ hv.1 (by decide),hv.2⟩
   · exact Nt hf hM hT (most:=10) (by decide)
  refine .bp hS fun bo q hq=>.pp hq fun M' T' hq=>?_
  obtain ⟨hq1,hq2,hq3⟩:=hq
  have hM':=hq2.mp hM
  have hJ2:kD (uU fu bo M' T') (oI (fun r=>jy r fun o r=>jy r fun l a=>(o.length≤21∧∀ y ∈ o,GS 4 y)∧TQ ⟨l,a⟩) O):=by
   unfold uU
   have k1:=hM'.ns.1;have k2:=hM'.l
   refine .ite (fun c=>?_) fun _=>.go ⟨RJ hq1 (by decide),hq3⟩
   refine .bp (pI hq3 (by decide) (by decide)) fun v T2 h2=>.ite (fun _=>?_) fun _=>.go ⟨RJ hq1 (by decide),h2.2⟩
   refine Bc h2.2 (by omega) (by omega) fun s T3 hs h3=>.bd (vP (hM'.ns.2 s hs)) fun x hx=>?_
   refine .bd (.app (by have:=hq1.1;simp only [List.length_cons,List.length_nil];omega)) fun r hr=>.go ⟨?_,h3⟩
   subst hr
   exact ⟨by rw [kI];have:=hq1.1;omega,om hq1.2 (GS.mk b0 b0 b0 z9 mK (len1 (hx.mono (by decide)) (by decide)) mK mK)⟩
  refine .BI hJ2 fun r2 hr=>.pp hr fun o r2 hr=>.pp hr fun tl ta hr=>?_
  refine .bd (.app (by have:=hr.1.1;simp only [List.length_cons,List.length_nil];omega)) fun r84 hr84=>.bd (.app (by simp only [List.length_cons,List.length_nil];omega)) fun r90 hr90=>?_
  subst hr84 hr90
  rw [l5 (by omega) (by omega)]
  refine CG hf ha hb hc hd n (i+1) _ ⟨tl,ta⟩ hr.2 (by rw [kI];omega) (by omega) (by omega) (om h4 ⟨Q5 nm hnm,hll,?_⟩)
  exact ⟨by dsimp only;rw [kI];have:=hr.1.1;omega,om hr.1.2 (GS.nil.mono (by decide))⟩
theorem N9 {fu:Nat} (hf:40≤fu) {l:List Int} (hl:l.length≤1000):kD (vg fu l) GPr:=by
 unfold vg
 refine .bp (pI (T:=⟨l,0⟩) ⟨Int.le_refl _,by dsimp only;omega,hl⟩ (by decide) (by decide)) fun a T1 h1=>.bp (pI h1.2 (by decide) (by decide)) fun b T2 h2=>.bp (pI h2.2 (by decide) (by decide)) fun c T3 h3=>.bp (pI h3.2 (by decide) (by decide)) fun d T4 h4=>?_
 refine .el (CG hf h1.1 h2.1 h3.1 h4.1 (O:=fun _=>False) fu 0 [] T4 h4.2 rfl (by omega) (by omega) fun f hf=>(by cases hf)) (fun r hr=>?_) fun _ z=>z.elim
 exact .pp hr fun _ r hr=>.pp hr fun o r hr=>.pp hr fun _ _ hr=>.mk ⟨rfl,hr.1,hr.2⟩
theorem SG {fu:Nat} {l:List Int}:kD (yN fu l) (fun r=>r.length≤200):=by
 unfold yN
 refine .ite (fun c=>.bd (.sl ⟨by decide,by decide,by omega⟩) fun r hr=>.mk ?_) fun c=>.mk (by omega)
 rw [hr,List.length_take]
 omega
end Go.Proofs.Ytfglbdkfnphjgaa
