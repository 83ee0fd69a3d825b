/- The program's checker answers: names, scopes, expressions. -/
import Derived.Test.YtfglbdkfnphjgaaY1
import Derived.Test.YtfglbdkfnphjgaaLj
import Derived.Test.YtfglbdkfnphjgaaY4
import Derived.Test.YtfglbdkfnphjgaaLh
import Derived.Test.YtfglbdkfnphjgaaLi
set_option linter.unusedVariables false
set_option linter.unusedSimpArgs false
namespace Go.Proofs.Ytfglbdkfnphjgaa
open Go.RowKit Go.Fw
structure CI (F:Int) (C:jD):Prop where
 vn:C.g.length≤24
 sc:∀ v ∈ C.d,0≤v∧v < C.g.length
 sl:C.d.length≤C.g.length
 st:C.a.b.length≤200
 rm:∀ n i,qa C.h n=some i→0≤i∧i < C.a.a.a.length
 fm:∀ n i,qa C.e n=some i→0≤i∧i < C.b.length
 rk:∀ x ∈ C.g,x.e=2→0≤x.b∧x.b < C.a.a.a.length
 vr:∀ (i:Nat) (x:jA),C.g[i]?=some x→F≤x.d∧x.d≤C.a.b.length∧((i:Int) ∈ C.d ∨ x.d - 1≤x.g∧x.g≤(C.a.b.length:Int) - 1)∧(x.c=true→x.d=F∧(i:Int) ∈ C.d)
structure CS (C C':jD):Prop where
 rc:C'.h=C.h
 fc:C'.e=C.e
 pg:C'.a.a=C.a.a
 vs:C'.a.c=C.a.c
 pa:C'.b=C.b
 cu:C'.f=C.f
 st:∃ e,C'.a.b=C.a.b ++ e
 vr:∀ (i:Nat) (x:jA),C.g[i]?=some x→∃ y,C'.g[i]?=some y∧y.a=x.a∧y.e=x.e∧y.d=x.d∧((i:Int) ∈ C.d→(i:Int) ∈ C'.d ∨ (C.a.b.length:Int) - 1≤y.g)∧((i:Int) ∉ C.d→(i:Int) ∉ C'.d∧y.g=x.g)
 np:∀ (i:Nat) (y:jA),C'.g[i]?=some y→y.c=true→∃ x,C.g[i]?=some x∧x.c=true
theorem CS.len {C C':jD} (h:CS C C'):C.a.b.length≤C'.a.b.length:=by
 obtain ⟨e,he⟩:=h.st
 rw [he,List.length_append]
 omega
theorem CS.rfl' {C:jD}:CS C C:=⟨rfl,rfl,rfl,rfl,rfl,rfl,⟨[],(List.append_nil _).symm⟩,fun i x h=>⟨x,h,rfl,rfl,rfl,fun k=>.inl k,fun k=>⟨k,rfl⟩⟩,fun i y h k=>⟨y,h,k⟩⟩
theorem CS.trans {C C1 C2:jD} (h:CS C C1) (k:CS C1 C2):CS C C2:=⟨k.rc.trans h.rc,k.fc.trans h.fc,k.pg.trans h.pg,k.vs.trans h.vs,k.pa.trans h.pa,k.cu.trans h.cu,by
 obtain ⟨e,he⟩:=h.st
 obtain ⟨d,hd⟩:=k.st
 exact ⟨e ++ d,by rw [hd,he,List.append_assoc]⟩,fun i x hx=>by
 have hl:=h.len
 obtain ⟨y,hy,a1,a2,a3,a4,a5⟩:=h.vr i x hx
 obtain ⟨z,hz,b1,b2,b3,b4,b5⟩:=k.vr i y hy
 refine ⟨z,hz,b1.trans a1,b2.trans a2,b3.trans a3,fun c=>?_,fun c=>?_⟩
 · by_cases d:(i:Int) ∈ C1.d
   · rcases b4 d with b4 | b4
     · exact .inl b4
     · exact .inr (by omega)
   · rcases a4 c with a4 | a4
     · exact absurd a4 d
     · have:=(b5 d).2
       exact .inr (by omega)
 · have:=a5 c
   exact ⟨(b5 this.1).1,(b5 this.1).2.trans this.2⟩,fun i y hy hp=>by
 obtain ⟨x,h1,h2⟩:=k.np i y hy hp
 exact h.np i x h1 h2⟩
inductive RE (V:List jA) (S:List Int) (id:Int):List jL→Prop
 | nil:RE V S id []
 | cons {x:jL} {l:List jL} (h:(x.e=1 ∨ x.e=2 ∨ x.e=3)→∃ v,0≤x.j∧V[x.j.toNat]?=some v∧v.a=x.a∧v.e=x.e∧v.d≤id∧(x.j ∈ S ∨ id≤v.g)) (a:RE V S id x.b) (k:RE V S id l):RE V S id (x :: l)
theorem RE.snoc {V:List jA} {S:List Int} {id:Int} {x:jL} {l:List jL} (h:RE V S id l) (k:RE V S id [x]):RE V S id (l ++ [x]):=by
 induction h with
 | nil=>exact k
 | cons h a _ _ ih=>exact .cons h a ih
theorem RE.mv {C C':jD} {id:Int} {l:List jL} (h:RE C.g C.d id l) (k:CS C C') (hid:id+1≤C.a.b.length):RE C'.g C'.d id l:=by
 induction h with
 | nil=>exact .nil
 | @cons x l h a _ ih1 ih2=>
  refine .cons (fun c=>?_) ih1 ih2
  obtain ⟨v,h1,h2,h3,h4,h5,h6⟩:=h c
  obtain ⟨y,hy,a1,a2,a3,a4,a5⟩:=k.vr _ _ h2
  rw [Int.toNat_of_nonneg h1] at a4 a5
  refine ⟨y,h1,hy,a1.trans h3,a2.trans h4,by omega,?_⟩
  by_cases d:x.j ∈ C.d
  · rcases a4 d with a4 | a4
    · exact .inl a4
    · exact .inr (by omega)
  · have:=(a5 d).2
    rcases h6 with h6 | h6
    · exact absurd h6 d
    · exact .inr (by omega)
def JR (V:List jA) (S:List Int) (id:Int) (l:List jL):Prop:=RE V S id l∧(∀ y ∈ l,Af 5000 y)∧l.length≤5000
theorem JR.nil {V:List jA} {S:List Int} {id:Int}:JR V S id []:=⟨.nil,fun y hy=>(by cases hy),Nat.zero_le _⟩
theorem JR.mv {C C':jD} {id:Int} {l:List jL} (h:JR C.g C.d id l) (k:CS C C') (hid:id+1≤C.a.b.length):JR C'.g C'.d id l:=⟨h.1.mv k hid,h.2⟩
theorem II {fu:Nat} {C:jD} {n:ByteArray} {O:Int × Bool→Prop} (hO:∀ v x,v ∈ C.d→C.g[v.toNat]?=some x→x.a=n→O (v,true)):∀ (l:List Int) (k:Nat),(∀ v ∈ l,v ∈ C.d∧0≤v∧v < C.g.length)→kI (mh fu C n l k) (oK (fun _=>True) O)
 | [],k,h=>.go trivial
 | u :: r,k,h=>by
  rw [mh]
  obtain ⟨h1,h2,h3⟩:=h u (List.mem_cons_self ..)
  refine .bd (.ix h2 h3) fun x hx=>.ite (fun c=>.out (hO u x h1 hx c)) fun _=>II hO r (k+1) fun v hv=>h v (List.mem_cons_of_mem _ hv)
theorem O5 {fu:Nat} {F:Int} {C:jD} (h:CI F C) {n:ByteArray}:kI (oN fu C n) (fun r=>iA r fun v b=>b=true→v ∈ C.d∧∃ x,C.g[v.toNat]?=some x∧x.a=n):=by
 unfold oN
 refine .el (II (O:=fun r=>iA r fun v b=>b=true→v ∈ C.d∧∃ x,C.g[v.toNat]?=some x∧x.a=n) (fun v x h1 h2 h3=>fun _=>⟨h1,x,h2,h3⟩) _ _ fun v hv=>⟨hv,h.sc v hv⟩) (fun _ _=>.mk fun z=>(by cases z)) fun o ho=>.mk ho
theorem Gp {fu:Nat} {x:ByteArray}:∀ (l:List ByteArray) (k:Nat),kI (mP fu x l k) (oK (fun _=>True) (fun _=>True))
 | [],_=>.go trivial
 | u :: r,k=>by
  rw [mP]
  exact .ite (fun _=>.out trivial) fun _=>Gp r (k+1)
theorem Qy {fu:Nat} {l:List ByteArray} {x:ByteArray}:kI (uH fu l x) (fun _=>True):=by
 unfold uH
 exact .el (Gp _ _) (fun _ _=>.mk trivial) fun _ _=>.mk trivial
def Vj (fu:Nat):Prop:=∀ (F id:Int) (C:jD) (l:List jL) (d:Nat),CI F C→(∀ (i:Nat) (x:jA),(i:Int) ∈ C.d→C.g[i]?=some x→x.d≤id)→l.length≤5000→(∀ y ∈ l,Af d y)→2 * d+2≤fu→kI (kg fu C l) (fun r=>iA r fun l' r=>iA r fun e C'=>C'=C∧(e=0→RE C.g C.d id l'∧l'.length=l.length∧∀ y ∈ l',Af d y))
def VL (fu:Nat):Prop:=∀ (F id:Int) (C:jD) (x:jL) (d:Nat),CI F C→(∀ (i:Nat) (x:jA),(i:Int) ∈ C.d→C.g[i]?=some x→x.d≤id)→Af d x→2 * d+1≤fu→kI (kW fu C x) (fun r=>iA r fun y r=>iA r fun e C'=>C'=C∧(e=0→RE C.g C.d id [y]∧Af d y))
theorem KQ {fu:Nat} (hE:VL fu) {F id:Int} {C:jD} (hC:CI F C) (hid:∀ (i:Nat) (x:jA),(i:Int) ∈ C.d→C.g[i]?=some x→x.d≤id) {d:Nat} (hd:2 * d+1≤fu):∀ (l:List jL) (k:Nat) (out:List jL),(∀ y ∈ l,Af d y)→out.length+l.length≤5000→RE C.g C.d id out→(∀ y ∈ out,Af d y)→
  kI (lm fu (kg fu) (kW fu) l k out C.f C.c C.h C.e C.a.a.a C.a.a.b C.a.c C.a.b C.b C.g C.d)
   (oK (fun r=>iA r fun o r=>iA r fun a1 r=>iA r fun a2 r=>iA r fun a3 r=>iA r fun a4 r=>iA r fun a5 r=>iA r fun a6 r=>iA r fun a7 r=>iA r fun a8 r=>iA r fun a9 r=>iA r fun a10 a11=>(⟨a3,a4,⟨⟨a5,a6⟩,a7,a8⟩,a9,a10,a11,a1,a2⟩:jD)=C∧RE C.g C.d id o∧o.length=out.length+l.length∧∀ y ∈ o,Af d y)
    (fun r=>iA r fun l' r=>iA r fun e C'=>C'=C∧e≠0))
 | [],k,out,_,_,ho,he=>.go ⟨rfl,ho,rfl,he⟩
 | x :: l,k,out,hl,hn,ho,he=>by
  rw [lm]
  rw [List.length_cons] at hn
  refine .bp (hE F id C x d hC hid (hl x (List.mem_cons_self ..)) hd) fun y r hr=>.pp hr fun e C' hr=>?_
  obtain ⟨rfl,hr⟩:=hr
  refine .ite (fun c=>.out ⟨rfl,c⟩) fun c=>.bd (.app (by simp only [List.length_cons,List.length_nil];omega)) fun q hq=>?_
  subst hq
  have hy:=hr (by omega)
  refine (KQ hE hC hid hd l (k+1) (out ++ [y]) (fun y hy=>hl y (List.mem_cons_of_mem _ hy)) (by rw [jY];omega) (ho.snoc hy.1) (pq he hy.2)).imp fun v hv=>?_
  cases v with
  | out o=>exact hv
  | go v=>
   obtain ⟨o,a1,a2,a3,a4,a5,a6,a7,a8,a9,a10,a11⟩:=v
   refine ⟨hv.1,hv.2.1,?_,hv.2.2.2⟩
   have:=hv.2.2.1
   rw [jY] at this
   rw [List.length_cons]
   omega
theorem FY:∀ fu:Nat,Vj fu∧VL fu
 | 0=>⟨fun _ _ _ _ _ _ _ _ _ h=>by omega,fun _ _ _ _ _ _ _ _ h=>by omega⟩
 | fu+1=>by
  have ih:=FY fu
  constructor
  · intro F id C l d hC hid hl he hf
    show kI (nU fu (kg fu) (kW fu) C l) _
    unfold nU
    refine .el (KQ ih.2 hC hid (by omega) l 0 [] he (by rw [List.length_nil];omega) .nil fun y hy=>(by cases hy)) (fun r hr=>?_) fun o ho=>.mk ?_
    · exact .pp hr fun o r hr=>.pp hr fun a1 r hr=>.pp hr fun a1 r hr=>.pp hr fun a1 r hr=>.pp hr fun a1 r hr=>.pp hr fun a1 r hr=>.pp hr fun a1 r hr=>.pp hr fun a1 r hr=>.pp hr fun a1 r hr=>.pp hr fun a1 r hr=>.pp hr fun a1 a2 hr=>.mk ⟨hr.1,fun _=>⟨hr.2.1,by rw [hr.2.2.1,List.length_nil,Nat.zero_add],hr.2.2.2⟩⟩
    · obtain ⟨a,e,C'⟩:=o
      exact ⟨ho.1,fun z=>absurd z ho.2⟩
  · intro F id C x d hC hid hx hf
    obtain _ | d:=d
    · exact hx.elim
    show kI (om fu (kg fu) (kW fu) C x) _
    unfold om
    have hJ0:kI (pE fu (kg fu) (kW fu) x) (oK (fun k=>(k≠0→k=x.e∧(x.e=1 ∨ x.e=2 ∨ x.e=3))∧((x.e=1 ∨ x.e=2 ∨ x.e=3)→k≠0)) (fun _=>False)):=by
      unfold pE
      exact .ite (fun _=>.go ⟨fun _=>by omega,fun _=>by omega⟩) fun _=>.ite (fun _=>.go ⟨fun _=>by omega,fun _=>by omega⟩) fun _=>.ite (fun _=>.go ⟨fun _=>by omega,fun _=>by omega⟩) fun _=>.go ⟨fun z=>absurd rfl z,fun _=>by omega⟩
    refine .el hJ0 (fun k hk=>?_) fun _ z=>z.elim
    have hJ1:kI (nX fu (kg fu) (kW fu) C x k) (oK (fun v=>(x.e=1 ∨ x.e=2 ∨ x.e=3)→v ∈ C.d∧∃ y,C.g[v.toNat]?=some y∧y.a=x.a∧y.e=x.e) (fun r=>iA r fun y r=>iA r fun e C'=>C'=C∧e≠0)):=by
      unfold nX
      refine .ite (fun c=>?_) fun c=>.go fun z=>absurd (hk.2 z) c
      refine .bp (O5 hC) fun v b hv=>.ite (fun _=>.out ⟨rfl,by show (8:Int)≠0;decide⟩) fun d=>?_
      obtain ⟨h1,y,h2,h3⟩:=hv (by simpa using d)
      have h4:=hC.sc v h1
      refine .bd (.ix h4.1 h4.2) fun y' hy'=>.ite (fun _=>.out ⟨rfl,by show (10:Int)≠0;decide⟩) fun e=>.go fun _=>?_
      rw [h2] at hy'
      cases hy'
      exact ⟨h1,y,h2,h3,by have:=(hk.1 c).1;omega⟩
    refine .el hJ1 (fun v hv=>?_) fun o ho=>.mk ?_
    · have hJ2:kI (nY fu (kg fu) (kW fu) C x v) (oK (fun _=>True) (fun r=>iA r fun y r=>iA r fun e C'=>C'=C∧e≠0)):=by
        unfold nY
        refine .ite (fun c=>?_) fun c=>.go trivial
        obtain ⟨h1,y,h2,h3,h5⟩:=hv (by omega)
        have h4:=hC.sc v h1
        refine .bd (.ix h4.1 h4.2) fun y' hy'=>?_
        rw [h2] at hy'
        cases hy'
        have h6:=hC.rk y (List.mem_of_getElem? h2) (by omega)
        exact .bd (.ix h6.1 h6.2) fun rc _=>.bd Qy fun i _=>.ite (fun _=>.out ⟨rfl,by show (8:Int)≠0;decide⟩) fun _=>.go trivial
      refine .el hJ2 (fun n _=>?_) fun o ho=>.mk ?_
      · refine .bp (ih.1 F id C x.b d hC hid hx.1 hx.2 (by omega)) fun l r hr=>.pp hr fun e C' hr=>.mk ⟨hr.1,fun z=>?_⟩
        have hx1:=hx.1
        have q:=hr.2 z
        refine ⟨.cons (fun c=>?_) q.1 .nil,⟨by dsimp only;omega,q.2.2⟩⟩
        obtain ⟨h1,y,h2,h3,h5⟩:=hv c
        have h4:=hC.sc v h1
        exact ⟨y,h4.1,h2,h3,h5,hid v.toNat y (by rw [Int.toNat_of_nonneg h4.1];exact h1) h2,.inl h1⟩
      · obtain ⟨a,e,C'⟩:=o
        exact ⟨ho.1,fun z=>absurd z ho.2⟩
    · obtain ⟨a,e,C'⟩:=o
      exact ⟨ho.1,fun z=>absurd z ho.2⟩
end Go.Proofs.Ytfglbdkfnphjgaa
set_option linter.unusedVariables false
set_option linter.unusedSimpArgs false
namespace Go.Proofs.Ytfglbdkfnphjgaa
open Go.RowKit Go.Fw
inductive SN (K:List ky) (V:List jA) (S:List Int) (f:Int):List jM→Nat→Nat→Prop
 | nil (a:Nat):SN K V S f [] a a
 | cons {x:jM} {l:List jM} {a c d b:Nat} (h:x.n=a) (k:K[a]?=some ⟨f,x.e,x.c⟩) (r1:JR V S a x.b) (r2:JR V S a x.d) (s1:SN K V S f x.f (a+1) c) (s2:SN K V S f x.i c d) (s3:SN K V S f l d b):SN K V S f (x :: l) a b
theorem SN.snoc {K:List ky} {V:List jA} {S:List Int} {f:Int} {l:List jM} {x:jM} {a b c:Nat} (h:SN K V S f l a b) (k:SN K V S f [x] b c):SN K V S f (l ++ [x]) a c:=by
 induction h with
 | nil=>exact k
 | cons h k' r1 r2 s1 s2 _ _ _ ih=>exact .cons h k' r1 r2 s1 s2 (ih k)
theorem SN.mv {C C':jD} {f:Int} {l:List jM} {a b:Nat} (h:SN C.a.b C.g C.d f l a b) (k:CS C C'):SN C'.a.b C'.g C'.d f l a b:=by
 induction h with
 | nil=>exact .nil _
 | cons h k' r1 r2 _ _ _ i1 i2 i3=>
  have hl:=kE k'
  refine .cons h ?_ (r1.mv k (by omega)) (r2.mv k (by omega)) i1 i2 i3
  obtain ⟨e,he⟩:=k.st
  rw [he,List.getElem?_append_left hl]
  exact k'
theorem SN.one {K:List ky} {V:List jA} {S:List Int} {f:Int} {x:jM} {a c d:Nat} (h:x.n=a) (k:K[a]?=some ⟨f,x.e,x.c⟩) (r1:JR V S a x.b) (r2:JR V S a x.d) (s1:SN K V S f x.f (a+1) c) (s2:SN K V S f x.i c d):SN K V S f [x] a d:=.cons h k r1 r2 s1 s2 (.nil d)
theorem QV {fu:Nat} {F:Int} {C:jD} {v:jA} (h:CI F C) (hn:C.g.length < 24) (hk:v.e=2→0≤v.b∧v.b < C.a.a.a.length) (hF:F≤C.a.b.length) (hp:v.c=true→F=C.a.b.length) :
   kI (pR fu C v) (fun r=>iA r fun i C'=>CI F C'∧(v.c=false→CS C C')∧C'.d=C.d ++ [(C.g.length:Int)]∧C'.a=C.a∧C'.h=C.h∧C'.e=C.e∧C'.b=C.b∧C'.f=C.f∧C'.g.length=C.g.length+1):=by
 have hst:=h.st;have hsl:=h.sl
 unfold pR
 refine .bd (.app (by simp only [List.length_cons,List.length_nil];omega)) fun r hr=>?_
 subst hr
 rw [jY,lD (by omega) (by omega)]
 refine .bd (.app (by simp only [List.length_cons,List.length_nil];omega)) fun q hq=>.mk ?_
 subst hq
 have e1:((C.g.length+1:Nat):Int) - 1=C.g.length:=by omega
 rw [e1]
 have old:∀ {i:Nat} {x:jA},C.g[i]?=some x→∀ {y:jA},(C.g ++ [y])[i]?=some x:=fun hi y=>by rw [List.getElem?_append_left (kE hi)];exact hi
 have cas:∀ {i:Nat} {x y:jA},(C.g ++ [y])[i]?=some x→C.g[i]?=some x ∨ i=C.g.length∧x=y:=fun {i x y} hi=>by
   by_cases c:i < C.g.length
   · rw [List.getElem?_append_left c] at hi;exact .inl hi
   · have hl:=kE hi
     rw [jY] at hl
     obtain rfl:i=C.g.length:=by omega
     rw [List.getElem?_append_right (Nat.le_refl _),Nat.sub_self] at hi
     exact .inr ⟨rfl,(Option.some.inj hi).symm⟩
 refine ⟨⟨by dsimp only;rw [jY];omega,fun u hu=>?_,by dsimp only;rw [jY,jY];omega,hst,h.rm,h.fm,fun x hx=>?_,fun i x hx=>?_⟩,fun hpf=>?_,rfl,rfl,rfl,rfl,rfl,rfl,jY⟩
 · dsimp only
   rw [jY]
   rcases List.mem_append.1 hu with hu | hu
   · have:=h.sc u hu;omega
   · simp only [List.mem_cons,List.not_mem_nil,or_false] at hu
     omega
 · rcases List.mem_append.1 hx with hx | hx
   · exact h.rk x hx
   · simp only [List.mem_cons,List.not_mem_nil,or_false] at hx
     subst hx
     exact hk
 · rcases cas hx with hx | ⟨rfl,rfl⟩
   · obtain ⟨a1,a2,a3,a4⟩:=h.vr i x hx
     refine ⟨a1,a2,?_,fun z=>⟨(a4 z).1,List.mem_append.2 (.inl (a4 z).2)⟩⟩
     rcases a3 with a3 | a3
     · exact .inl (List.mem_append.2 (.inl a3))
     · exact .inr a3
   · exact ⟨hF,Int.le_refl _,.inl (List.mem_append.2 (.inr (.head _))),fun z=>⟨(hp z).symm,List.mem_append.2 (.inr (.head _))⟩⟩
 · refine ⟨rfl,rfl,rfl,rfl,rfl,rfl,⟨[],(List.append_nil _).symm⟩,fun i x hx=>⟨x,old hx,rfl,rfl,rfl,fun k=>.inl (List.mem_append.2 (.inl k)),fun k=>⟨fun z=>?_,rfl⟩⟩,fun i y hy hyp=>?_⟩
   · rcases List.mem_append.1 z with z | z
     · exact k z
     · simp only [List.mem_cons,List.not_mem_nil,or_false] at z
       have:=kE hx
       omega
   · rcases cas hy with hy | ⟨_,rfl⟩
     · exact ⟨y,hy,hyp⟩
     · exact absurd hyp (by rw [hpf];decide)
theorem Dt {fu:Nat} {C:jD} {N:Int} (hN:N=(C.a.b.length:Int) - 1) (h200:C.a.b.length≤200) {O:jD→Prop}:∀ (l:List Int) (k:Nat) (V:List jA),(∀ v ∈ l,0≤v∧v < V.length)→
  kI (kJ fu C l k V) (oK (fun V'=>V'.length=V.length∧∀ (i:Nat) (x:jA),V[i]?=some x→∃ y,V'[i]?=some y∧y.a=x.a∧y.e=x.e∧y.b=x.b∧y.c=x.c∧y.d=x.d∧((i:Int) ∈ l→y.g=N)∧((i:Int) ∉ l→y.g=x.g)) O)
 | [],k,V,h=>.go ⟨rfl,fun i x hx=>⟨x,hx,rfl,rfl,rfl,rfl,rfl,fun z=>(by cases z),fun _=>rfl⟩⟩
 | u :: r,k,V,h=>by
  obtain ⟨h1,h2⟩:=h u (List.mem_cons_self ..)
  rw [kJ]
  refine .bd (.ix h1 h2) fun z hz=>.bd (.st ⟨h1,h2⟩) fun W hW=>?_
  rw [lD (by omega) (by omega),← hN] at hW
  have hWl:W.length=V.length:=by rw [hW,List.length_set]
  refine (Dt hN h200 (O:=O) r (k+1) W (fun v hv=>by rw [hWl];exact h v (List.mem_cons_of_mem _ hv))).imp fun v hv=>?_
  cases v with
  | out o=>exact hv
  | go V'=>
   refine ⟨hv.1.trans hWl,fun i x hx=>?_⟩
   by_cases c:i=u.toNat
   · subst c
     rw [hz] at hx
     cases hx
     obtain ⟨y,hy,a1,a2,a3,a4,a5,a6,a7⟩:=hv.2 u.toNat ⟨z.a,z.e,z.b,z.f,z.c,z.d,N⟩ (by rw [hW,List.getElem?_set_self (by omega)])
     refine ⟨y,hy,a1,a2,a3,a4,a5,fun _=>?_,fun k=>absurd (by rw [Int.toNat_of_nonneg h1];exact List.mem_cons_self ..) k⟩
     by_cases d:((u.toNat:Nat):Int) ∈ r
     · exact a6 d
     · exact a7 d
   · obtain ⟨y,hy,a1,a2,a3,a4,a5,a6,a7⟩:=hv.2 i x (by rw [hW,List.getElem?_set_ne (by omega)];exact hx)
     refine ⟨y,hy,a1,a2,a3,a4,a5,fun k=>?_,fun k=>a7 fun z=>k (List.mem_cons_of_mem _ z)⟩
     rcases List.mem_cons.1 k with k | k
     · omega
     · exact a6 k
theorem M6 {fu:Nat} {F:Int} {C:jD} {n:Nat} (h:CI F C) (hn:n≤C.d.length) (hp:∀ (i:Nat) (x:jA),C.g[i]?=some x→x.c=true→(i:Int) ∈ C.d.take n) :
   kI (lC fu C n) (fun C'=>CI F C'∧CS C C'∧C'.d=C.d.take n∧C'.a=C.a):=by
 have hst:=h.st;have hsl:=h.sl;have hvn:=h.vn
 unfold lC
 refine .bd (.sl ⟨by omega,by omega,Int.le_refl _⟩) fun l hl=>?_
 have hl':l=C.d.drop n:=by
   rw [hl,Int.toNat_natCast,List.take_of_length_le (by rw [List.length_drop];omega)]
 subst hl'
 have hmem:∀ v,v ∈ C.d ↔ v ∈ C.d.take n ∨ v ∈ C.d.drop n:=fun v=>by
   rw [← List.mem_append,List.take_append_drop]
 refine .el (Dt rfl hst (O:=fun _=>False) (C.d.drop n) 0 C.g fun v hv=>h.sc v (List.mem_of_mem_drop hv)) (fun V hV=>?_) fun _ z=>z.elim
 refine .bd (.sl ⟨Int.le_refl _,by omega,by omega⟩) fun q hq=>.mk ?_
 have hq':q=C.d.take n:=by
   rw [hq]
   simp
 subst hq'
 obtain ⟨v1,v2⟩:=hV
 have back:∀ {i:Nat} {y:jA},V[i]?=some y→∃ x,C.g[i]?=some x∧y.e=x.e∧y.b=x.b∧y.c=x.c∧y.d=x.d∧((i:Int) ∈ C.d.drop n→y.g=(C.a.b.length:Int) - 1)∧((i:Int) ∉ C.d.drop n→y.g=x.g):=fun {i y} hy=>by
   obtain ⟨x,hx⟩:=lL (l:=C.g) (k:=i) (by have:=kE hy;omega)
   obtain ⟨y',hy',a1,a2,a3,a4,a5,a6,a7⟩:=v2 i x hx
   rw [hy] at hy'
   cases hy'
   exact ⟨x,hx,a2,a3,a4,a5,a6,a7⟩
 refine ⟨⟨by dsimp only;omega,fun v hv=>by dsimp only;rw [v1];exact h.sc v (List.mem_of_mem_take hv),by dsimp only;rw [List.length_take];omega,hst,h.rm,h.fm,fun y hy=>?_,fun i y hy=>?_⟩,⟨rfl,rfl,rfl,rfl,rfl,rfl,⟨[],(List.append_nil _).symm⟩,fun i x hx=>?_,fun i y hy hyp=>?_⟩,rfl,rfl⟩
 · obtain ⟨i,hi⟩:=List.mem_iff_getElem?.1 hy
   obtain ⟨x,hx,a1,a2,_⟩:=back hi
   rw [a1,a2]
   exact h.rk x (List.mem_of_getElem? hx)
 · obtain ⟨x,hx,a1,a2,a3,a4,a5,a6⟩:=back hy
   obtain ⟨b1,b2,b3,b4⟩:=h.vr i x hx
   rw [a3,a4]
   refine ⟨b1,b2,?_,fun z=>⟨(b4 z).1,hp i x hx z⟩⟩
   by_cases c:(i:Int) ∈ C.d.drop n
   · have:=a5 c
     exact .inr ⟨by omega,by dsimp only;omega⟩
   · rcases b3 with b3 | b3
     · exact .inl (((hmem _).1 b3).resolve_right c)
     · have:=a6 c
       exact .inr ⟨by omega,by dsimp only;omega⟩
 · obtain ⟨y,hy,a1,a2,a3,a4,a5,a6,a7⟩:=v2 i x hx
   refine ⟨y,hy,a1,a2,a5,fun k=>?_,fun k=>⟨fun z=>k (List.mem_of_mem_take z),a7 fun z=>k (List.mem_of_mem_drop z)⟩⟩
   rcases (hmem _).1 k with k | k
   · exact .inl k
   · exact .inr (by have:=a6 k;omega)
 · obtain ⟨x,hx,a1,a2,a3,_⟩:=back hy
   exact ⟨x,hx,by rw [← a3];exact hyp⟩
def DP (F:Int) (C:jD) (r:Int × Int × jD):Prop:=iA r fun _ r=>iA r fun _ C'=>CI F C'∧CS C C'∧(∃ s,C'.d=C.d ++ s)∧C'.a=C.a
theorem Ey {fu:Nat} {F:Int} {C:jD} {v:jA} (h:CI F C) (hk:v.e=2→0≤v.b∧v.b < C.a.a.a.length) (hF:F≤C.a.b.length) (hp:v.c=false):kI (nA fu C v) (DP F C):=by
 unfold nA
 have same:CI F C∧CS C C∧(∃ s,C.d=C.d ++ s)∧C.a=C.a:=⟨h,.rfl',⟨[],(List.append_nil _).symm⟩,rfl⟩
 refine .bp (O5 h) fun i b _=>.ite (fun _=>.mk same) fun _=>.ite (fun _=>.mk same) fun c=>?_
 refine .bp (QV h (by omega) hk hF (fun z=>by rw [hp] at z;cases z)) fun i C' hC=>.mk ?_
 exact ⟨hC.1,hC.2.1 hp,⟨_,hC.2.2.1⟩,hC.2.2.2.1⟩
theorem L6 {fu:Nat} {F:Int} {C:jD} {x:jM} (h:CI F C) (hF:F≤C.a.b.length):kI (oZ fu C x) (DP F C):=by
 unfold oZ
 have same:CI F C∧CS C C∧(∃ s,C.d=C.d ++ s)∧C.a=C.a:=⟨h,.rfl',⟨[],(List.append_nil _).symm⟩,rfl⟩
 have hJ:kI (qp fu C x) (oK (fun r=>iA r fun k r=>iA r fun rc _=>k=2→0≤rc∧rc < C.a.a.a.length) (DP F C)):=by
  unfold qp
  refine .ite (fun _=>.ite (fun _=>.out same) fun c=>?_) fun _=>.ite (fun _=>.go fun z=>absurd z (by decide)) fun _=>.go fun z=>absurd z (by decide)
  have hs:(qa C.h x.g).isSome=true:=by
   revert c
   cases (qa C.h x.g) <;> simp
  obtain ⟨i,hi⟩:=Option.isSome_iff_exists.1 hs
  have h1:=h.rm _ _ hi
  rw [hi]
  exact .bd (.ix h1.1 h1.2) fun e _=>.go fun _=>h1
 refine .el hJ (fun r hr=>.pp hr fun k r hr=>.pp hr fun rc w hr=>?_) fun o ho=>.mk ho
 exact .bp (Ey h hr hF rfl) fun i r hr=>.pp hr fun e C' hr=>.mk hr
theorem Jh {fu:Nat} {C:jD} {x:jM}:∀ (l:List jL) (k:Nat),kI (nE fu C x l k) (oK (fun _=>True) (fun r=>iA r fun e r=>iA r fun C' y=>C'=C∧y=x∧e≠0))
 | [],_=>.go trivial
 | u :: r,k=>by
  rw [nE]
  exact .ite (fun _=>.out ⟨rfl,rfl,by show (10:Int)≠0;decide⟩) fun _=>.ite (fun _=>.out ⟨rfl,rfl,by show (10:Int)≠0;decide⟩) fun _=>Jh r (k+1)
theorem Sq {fu:Nat} (hf:10002≤fu) {F id:Int} {C:jD} {x:jM} (h:CI F C) (hid:∀ (i:Nat) (x:jA),(i:Int) ∈ C.d→C.g[i]?=some x→x.d≤id) (h1:x.d.length≤5000∧∀ y ∈ x.d,Af 5000 y) (h2:x.b.length≤5000∧∀ y ∈ x.b,Af 5000 y) :
   kI (sO fu C x) (fun r=>iA r fun e r=>iA r fun C' y=>C'=C∧y.e=x.e∧y.c=x.c∧y.n=x.n∧y.f=x.f∧y.i=x.i∧(e=0→JR C.g C.d id y.d∧JR C.g C.d id y.b)):=by
 unfold sO
 refine .el (Jh x.d 0) (fun _ _=>?_) fun o ho=>.mk ?_
 · refine .bp ((FY fu).1 F id C x.d 5000 h hid h1.1 h1.2 (by omega)) fun tg r hr=>.pp hr fun e C' hr=>?_
   obtain ⟨rfl,hr⟩:=hr
   refine .ite (fun c=>.mk ⟨rfl,rfl,rfl,rfl,rfl,rfl,fun z=>absurd z c⟩) fun c=>.ite (fun _=>.mk ⟨rfl,rfl,rfl,rfl,rfl,rfl,fun z=>absurd z (by decide)⟩) fun d=>?_
   have hs:(qa C'.e x.k).isSome=true:=by
    revert d
    cases (qa C'.e x.k) <;> simp
   obtain ⟨i,hi⟩:=Option.isSome_iff_exists.1 hs
   have h3:=h.fm _ _ hi
   rw [hi]
   refine .bd (.ix h3.1 h3.2) fun n _=>.ite (fun _=>.mk ⟨rfl,rfl,rfl,rfl,rfl,rfl,fun z=>absurd z (by decide)⟩) fun _=>?_
   refine .bp ((FY fu).1 F id C' x.b 5000 h hid h2.1 h2.2 (by omega)) fun ar r hr2=>.pp hr2 fun e2 C2 hr2=>.mk ?_
   exact ⟨hr2.1,rfl,rfl,rfl,rfl,rfl,fun z=>⟨⟨(hr (by omega)).1,(hr (by omega)).2.2,by rw [(hr (by omega)).2.1];exact h1.1⟩,⟨(hr2.2 z).1,(hr2.2 z).2.2,by rw [(hr2.2 z).2.1];exact h2.1⟩⟩⟩
 · obtain ⟨e,C',y⟩:=o
   obtain ⟨rfl,rfl,ho⟩:=ho
   exact ⟨rfl,rfl,rfl,rfl,rfl,rfl,fun z=>absurd z ho⟩
end Go.Proofs.Ytfglbdkfnphjgaa
set_option linter.unusedVariables false
set_option linter.unusedSimpArgs false
namespace Go.Proofs.Ytfglbdkfnphjgaa
open Go.RowKit Go.Fw
def LP (F:Int) (C:jD) (l:List jM) (e:Int) (C':jD):Prop:=CI F C'∧CS C C'∧(∃ s,C'.d=C.d ++ s)∧(e=0→SN C'.a.b C'.g C'.d C.f l C.a.b.length C'.a.b.length)
def Vu (fu:Nat):Prop:=∀ (F:Int) (C:jD) (l:List jM) (n:Nat),CI F C→F≤C.a.b.length→l.length≤5001→(∀ y ∈ l,CJ 5000 n y)→4 * n+10005≤fu→kI (kY fu C l) (fun r=>iA r fun l' r=>iA r fun e C'=>LP F C l' e C')
def UX (fu:Nat):Prop:=∀ (F:Int) (C:jD) (x:jM) (n:Nat),CI F C→F≤C.a.b.length→CJ 5000 n x→4 * n+10004≤fu→kI (kw fu C x) (fun r=>iA r fun y r=>iA r fun e C'=>LP F C [y] e C')
def Vx (fu:Nat):Prop:=∀ (F:Int) (C:jD) (x:jM) (n id:Nat),CI F C→F≤id→C.a.b.length=id+1→(∀ (i:Nat) (x:jA),C.g[i]?=some x→x.d≤id)→CJ 5000 n x→4 * n+10003≤fu→kI (kV fu C x) (fun r=>iA r fun e r=>iA r fun C' y=>CI F C'∧CS C C'∧(∃ s,C'.d=C.d ++ s)∧y.e=x.e∧y.c=x.c∧y.n=x.n∧(e=0→JR C'.g C'.d id y.d∧JR C'.g C'.d id y.b∧∃ c,SN C'.a.b C'.g C'.d C.f y.f (id+1) c∧SN C'.a.b C'.g C'.d C.f y.i c C'.a.b.length))
def VB (fu:Nat):Prop:=∀ (F:Int) (C:jD) (l:List jM) (n:Nat),CI F C→F≤C.a.b.length→l.length≤5000→(∀ y ∈ l,CJ 5000 n y)→4 * n+10006≤fu→kI (kU fu C l) (fun r=>iA r fun l' r=>iA r fun e C'=>CI F C'∧CS C C'∧C'.d=C.d∧(e=0→SN C'.a.b C'.g C'.d C.f l' C.a.b.length C'.a.b.length))
theorem Oh {F:Int} {C C':jD} (h:CI F C) (k:CS C C') {s:List Int} (hs:C'.d=C.d ++ s):∀ (i:Nat) (x:jA),C'.g[i]?=some x→x.c=true→(i:Int) ∈ C'.d.take C.d.length:=fun i x hx hp=>by
 obtain ⟨y,hy,hyp⟩:=k.np i x hx hp
 rw [hs,List.take_left']
 · exact ((h.vr i y hy).2.2.2 hyp).2
 · rfl
theorem Qq {fu:Nat} (ih:Vu fu):VB (fu+1):=by
 intro F C l n hC hF hl he hf
 show kI (rz fu (kY fu) (kw fu) (kV fu) (kU fu) C l) _
 unfold rz
 refine .bp (ih F C l n hC hF (by omega) he (by omega)) fun l' r hr=>.pp hr fun e C1 hr=>?_
 obtain ⟨h1,h2,⟨s,h3⟩,h4⟩:=hr
 refine .bd (M6 h1 (by rw [h3,List.length_append];omega) (Oh hC h2 h3)) fun C2 hC2=>.mk ?_
 obtain ⟨k1,k2,k3,k4⟩:=hC2
 refine ⟨k1,h2.trans k2,by rw [k3,h3,List.take_left' rfl],fun z=>?_⟩
 have:=(h4 z).mv k2
 rw [k4] at this ⊢
 exact this
theorem Je {fu:Nat} (hS:UX fu) {F:Int} {C0:jD} (hF:F≤C0.a.b.length) {n:Nat} (hn:4 * n+10004≤fu):∀ (l:List jM) (k:Nat) (out:List jM) (C:jD),(∀ y ∈ l,CJ 5000 n y)→out.length+l.length≤5001→LP F C0 out 0 C→
  kI (nC fu (kY fu) (kw fu) (kV fu) (kU fu) l k out C.f C.c C.h C.e C.a.a.a C.a.a.b C.a.c C.a.b C.b C.g C.d)
   (oK (fun r=>iA r fun o r=>iA r fun a1 r=>iA r fun a2 r=>iA r fun a3 r=>iA r fun a4 r=>iA r fun a5 r=>iA r fun a6 r=>iA r fun a7 r=>iA r fun a8 r=>iA r fun a9 r=>iA r fun a10 a11=>LP F C0 o 0 ⟨a3,a4,⟨⟨a5,a6⟩,a7,a8⟩,a9,a10,a11,a1,a2⟩)
    (fun r=>iA r fun l' r=>iA r fun e C'=>LP F C0 l' e C'))
 | [],k,out,C,_,_,ho=>.go ho
 | x :: l,k,out,C,hl,hlen,ho=>by
  rw [nC]
  rw [List.length_cons] at hlen
  obtain ⟨h1,h2,⟨s,h3⟩,h4⟩:=ho
  refine .bp (hS F C x n h1 (by have:=h2.len;omega) (hl x (List.mem_cons_self ..)) hn) fun y r hr=>.pp hr fun e C' hr=>?_
  obtain ⟨k1,k2,⟨s2,k3⟩,k4⟩:=hr
  have q1:∃ s,C'.d=C0.d ++ s:=⟨s ++ s2,by rw [k3,h3,List.append_assoc]⟩
  refine .ite (fun c=>.out ⟨k1,h2.trans k2,q1,fun z=>absurd z c⟩) fun c=>.bd (.app (by simp only [List.length_cons,List.length_nil];omega)) fun q hq=>?_
  subst hq
  refine Je hS hF hn l (k+1) (out ++ [y]) C' (fun y hy=>hl y (List.mem_cons_of_mem _ hy)) (by rw [jY];omega) ⟨k1,h2.trans k2,q1,fun _=>?_⟩
  have a1:=(h4 rfl).mv k2
  have a2:=k4 (by omega)
  rw [h2.cu] at a2
  exact a1.snoc a2
theorem R8 {fu:Nat} (ih:UX fu):Vu (fu+1):=by
 intro F C l n hC hF hl he hf
 show kI (p8 fu (kY fu) (kw fu) (kV fu) (kU fu) C l) _
 unfold p8
 refine .el (Je ih hF (n:=n) (by omega) l 0 [] C he (by rw [List.length_nil];omega) ⟨hC,.rfl',⟨[],(List.append_nil _).symm⟩,fun _=>.nil _⟩) (fun r hr=>?_) fun o ho=>.mk ho
 exact .pp hr fun o r hr=>.pp hr fun a1 r hr=>.pp hr fun a1 r hr=>.pp hr fun a1 r hr=>.pp hr fun a1 r hr=>.pp hr fun a1 r hr=>.pp hr fun a1 r hr=>.pp hr fun a1 r hr=>.pp hr fun a1 r hr=>.pp hr fun a1 r hr=>.pp hr fun a1 a2 hr=>.mk hr
theorem PP {fu:Nat} (ih:VB fu):Vx (fu+1):=by
 intro F C x n id hC hF hid hfr hx hf
 obtain _ | n:=n
 · exact hx.elim
 obtain ⟨x1,x2,x3,x4,x5⟩:=hx
 show kI (rA fu (kY fu) (kw fu) (kV fu) (kU fu) C x) _
 unfold rA
 have same:∃ s,C.d=C.d ++ s:=⟨[],(List.append_nil _).symm⟩
 refine .bp ((FY fu).1 F id C x.d 5000 hC (fun i x _ hx=>hfr i x hx) (by omega) x1.2 (by omega)) fun tg r hr=>.pp hr fun e C' hr=>?_
 obtain ⟨rfl,t1⟩:=hr
 refine .ite (fun c=>.mk ⟨hC,.rfl',same,rfl,rfl,rfl,fun z=>absurd z c⟩) fun c=>?_
 refine .bp ((FY fu).1 F id C' x.b 5000 hC (fun i x _ hx=>hfr i x hx) x2.1 x2.2 (by omega)) fun ar r hr=>.pp hr fun e2 C2 hr=>?_
 obtain ⟨rfl,t2⟩:=hr
 refine .ite (fun c=>.mk ⟨hC,.rfl',same,rfl,rfl,rfl,fun z=>absurd z c⟩) fun c2=>?_
 refine .bp (ih F C2 x.f n hC (by omega) x3.1 x3.2 (by omega)) fun bo r hr=>.pp hr fun e3 C3 hr=>?_
 obtain ⟨b1,b2,b3,b4⟩:=hr
 refine .ite (fun c=>.mk ⟨b1,b2,⟨[],by rw [b3,List.append_nil]⟩,rfl,rfl,rfl,fun z=>absurd z c⟩) fun c3=>?_
 have hb:=b4 (by omega)
 have hl3:=b2.len
 have hJ:kI (sP fu (kY fu) (kw fu) (kV fu) (kU fu) x tg ar bo C3) (oK (fun r=>iA r fun a1 r=>iA r fun a2 r=>iA r fun a3 r=>iA r fun a4 r=>iA r fun a5 r=>iA r fun a6 r=>iA r fun a7 r=>iA r fun a8 r=>iA r fun a9 r=>iA r fun a10 r=>iA r fun a11 _=>∃ L,DP F ⟨C3.h,C3.e,C3.a,C3.b,C3.g,C3.d,C3.f,L⟩ (0,0,⟨a3,a4,⟨⟨a5,a6⟩,a7,a8⟩,a9,a10,a11,a1,a2⟩))
     (fun r=>iA r fun e r=>iA r fun C' y=>CI F C'∧CS C2 C'∧(∃ s,C'.d=C2.d ++ s)∧y.e=x.e∧y.c=x.c∧y.n=x.n∧e≠0)):=by
   unfold sP
   have hI:∀ L,CI F ⟨C3.h,C3.e,C3.a,C3.b,C3.g,C3.d,C3.f,L⟩:=fun L=>⟨b1.vn,b1.sc,b1.sl,b1.st,b1.rm,b1.fm,b1.rk,b1.vr⟩
   refine .ite (fun _=>?_) fun _=>.go ⟨C3.c,b1,.rfl',⟨[],(List.append_nil _).symm⟩,rfl⟩
   refine .bp (Ey (v:=⟨x.a,1,-1,1,false,0,0⟩) (hI x.c) (fun z=>absurd z (by show ¬ (1:Int)=2;decide)) (by dsimp only;omega) rfl) fun i r hr=>.pp hr fun e4 C4 hr=>.ite (fun c=>?_) fun c=>.go ⟨x.c,hr⟩
   obtain ⟨d1,d2,⟨s,d3⟩,d4⟩:=hr
   refine .out ⟨d1,b2.trans ⟨d2.rc,d2.fc,d2.pg,d2.vs,d2.pa,d2.cu,d2.st,d2.vr,d2.np⟩,⟨s,by rw [d3];show C3.d ++ s=_;rw [b3]⟩,rfl,rfl,rfl,c⟩
 refine .el hJ (fun r hr=>?_) fun o ho=>.mk ?_
 · refine .pp hr fun a1 r hr=>.pp hr fun a2 r hr=>.pp hr fun a3 r hr=>.pp hr fun a4 r hr=>.pp hr fun a5 r hr=>.pp hr fun a6 r hr=>.pp hr fun a7 r hr=>.pp hr fun a8 r hr=>.pp hr fun a9 r hr=>.pp hr fun a10 r hr=>.pp hr fun a11 a12 hr=>?_
   obtain ⟨L,d1,d2,⟨s,d3⟩,d4⟩:=hr
   have d2':CS C3 ⟨a3,a4,⟨⟨a5,a6⟩,a7,a8⟩,a9,a10,a11,a1,a2⟩:=⟨d2.rc,d2.fc,d2.pg,d2.vs,d2.pa,d2.cu,d2.st,d2.vr,d2.np⟩
   have hst:(⟨⟨a5,a6⟩,a7,a8⟩:jW).b.length=C3.a.b.length:=by rw [show (⟨⟨a5,a6⟩,a7,a8⟩:jW)=C3.a from d4]
   refine .bp (ih F ⟨a3,a4,⟨⟨a5,a6⟩,a7,a8⟩,a9,a10,a11,a1,a2⟩ x.i n d1 (by dsimp only at hst ⊢;omega) x4.1 x4.2 (by omega)) fun el r hr=>.pp hr fun e5 C5 hr=>?_
   obtain ⟨f1,f2,f3,f4⟩:=hr
   have hs5:C5.d=C3.d ++ s:=f3.trans d3
   have k5:CS C3 C5:=d2'.trans f2
   refine .bd (M6 f1 (by rw [hs5,List.length_append];omega) (Oh b1 k5 hs5)) fun C6 hC6=>.mk ?_
   obtain ⟨g1,g2,g3,g4⟩:=hC6
   have hs6:C6.d=C3.d:=by rw [g3,hs5,List.take_left' rfl]
   have k6:CS C3 C6:=k5.trans g2
   refine ⟨g1,b2.trans k6,⟨[],by rw [hs6,b3,List.append_nil]⟩,rfl,rfl,rfl,fun z=>?_⟩
   have t1':=JR.mv ⟨(t1 (by omega)).1,(t1 (by omega)).2.2,by rw [(t1 (by omega)).2.1];omega⟩ (b2.trans k6) (by omega)
   have t2':=JR.mv ⟨(t2 (by omega)).1,(t2 (by omega)).2.2,by rw [(t2 (by omega)).2.1];omega⟩ (b2.trans k6) (by omega)
   refine ⟨t1',t2',C3.a.b.length,?_,?_⟩
   · have:=hb.mv k6
     rw [hid] at this
     exact this
   · have:=(f4 z).mv g2
     have hcu:(⟨a3,a4,⟨⟨a5,a6⟩,a7,a8⟩,a9,a10,a11,a1,a2⟩:jD).f=C2.f:=d2'.cu.trans b2.cu
     rw [hcu] at this
     rw [g4] at this ⊢
     dsimp only at this hst
     rw [hst] at this
     exact this
 · obtain ⟨e,C',y⟩:=o
   obtain ⟨o1,o2,o3,o4,o5,o6,o7⟩:=ho
   exact ⟨o1,o2,o3,o4,o5,o6,fun z=>absurd z o7⟩
theorem RP {fu:Nat} (ih:Vx fu):UX (fu+1):=by
 intro F C x n hC hF hx hf
 show kI (oM fu (kY fu) (kw fu) (kV fu) (kU fu) C x) _
 unfold oM
 have hst:=hC.st
 refine .ite (fun c=>.mk ?_) fun c=>.bd (.app (by simp only [List.length_cons,List.length_nil];omega)) fun K hK=>?_
 · exact ⟨⟨hC.vn,hC.sc,hC.sl,hC.st,hC.rm,hC.fm,hC.rk,hC.vr⟩,⟨rfl,rfl,rfl,rfl,rfl,rfl,CS.rfl'.st,CS.rfl'.vr,CS.rfl'.np⟩,⟨[],(List.append_nil _).symm⟩,fun z=>absurd z (by decide)⟩
 subst hK
 have hlen:(C.a.b ++ [(⟨C.f,x.e,x.c⟩:ky)]).length=C.a.b.length+1:=jY
 have hI:CI F ⟨C.h,C.e,⟨C.a.a,C.a.c,C.a.b ++ [⟨C.f,x.e,x.c⟩]⟩,C.b,C.g,C.d,C.f,x.c⟩:=⟨hC.vn,hC.sc,hC.sl,by dsimp only;omega,hC.rm,hC.fm,hC.rk,fun i v hv=>by
   obtain ⟨a1,a2,a3,a4⟩:=hC.vr i v hv
   refine ⟨a1,by dsimp only;omega,?_,a4⟩
   rcases a3 with a3 | a3
   · exact .inl a3
   · exact .inr ⟨a3.1,by dsimp only;omega⟩⟩
 have hS:CS C ⟨C.h,C.e,⟨C.a.a,C.a.c,C.a.b ++ [⟨C.f,x.e,x.c⟩]⟩,C.b,C.g,C.d,C.f,x.c⟩:=⟨rfl,rfl,rfl,rfl,rfl,rfl,⟨_,rfl⟩,CS.rfl'.vr,CS.rfl'.np⟩
 have hfr:∀ (i:Nat) (v:jA),C.g[i]?=some v→v.d≤C.a.b.length:=fun i v hv=>(hC.vr i v hv).2.1
 have hat:(C.a.b ++ [(⟨C.f,x.e,x.c⟩:ky)])[C.a.b.length]?=some ⟨C.f,x.e,x.c⟩:=by
   rw [List.getElem?_append_right (Nat.le_refl _),Nat.sub_self];rfl
 have get:∀ {C':jD},CS ⟨C.h,C.e,⟨C.a.a,C.a.c,C.a.b ++ [⟨C.f,x.e,x.c⟩]⟩,C.b,C.g,C.d,C.f,x.c⟩ C'→C'.a.b[C.a.b.length]?=some ⟨C.f,x.e,x.c⟩:=fun k=>by
   obtain ⟨e,he⟩:=k.st
   rw [he,List.getElem?_append_left (by dsimp only;omega)]
   exact hat
 refine .ite (fun ck=>?_) fun ck=>?_
 · refine .bp (L6 hI (by dsimp only;omega)) fun v r hr=>.pp hr fun e C' hr=>.mk ?_
   obtain ⟨d1,d2,d3,d4⟩:=hr
   refine ⟨d1,hS.trans d2,d3,fun z=>?_⟩
   have hl:C'.a.b.length=C.a.b.length+1:=by rw [d4];exact hlen
   rw [hl]
   exact .one rfl (get d2) JR.nil JR.nil (.nil _) (.nil _)
 have hJ:kI (qg fu (kY fu) (kw fu) (kV fu) (kU fu) x) (oK (fun _=>True) (fun _=>False)):=by
   unfold qg
   exact .ite (fun _=>.go trivial) fun _=>.ite (fun _=>.go trivial) fun _=>.go trivial
 refine .el hJ (fun b _=>.ite (fun _=>?_) fun _=>?_) fun _ z=>z.elim
 · obtain _ | n:=n
   · exact hx.elim
   obtain ⟨x1,x2,x3,x4,x5⟩:=hx
   refine .bp (Sq (x:=⟨x.e,x.c,(C.a.b.length:Int),x.a,x.g,x.m,x.j,x.d,x.k,x.h,x.b,[],[]⟩) (id:=C.a.b.length) (by omega) hI (fun i v _ hv=>hfr i v hv) ⟨by dsimp only;omega,x1.2⟩ x2) fun e r hr=>.pp hr fun C' y hr=>.mk ?_
   obtain ⟨rfl,y1,y2,y3,y4,y5,y6⟩:=hr
   refine ⟨hI,hS,⟨[],(List.append_nil _).symm⟩,fun z=>?_⟩
   have q:=y6 z
   dsimp only
   rw [hlen]
   refine .one (c:=C.a.b.length+1) y3 (by rw [y1,y2];exact hat) q.2 q.1 ?_ ?_
   · rw [y4];exact .nil _
   · rw [y5];exact .nil _
 · refine .bp (ih F _ ⟨x.e,x.c,(C.a.b.length:Int),x.a,x.g,x.m,x.j,x.d,x.k,x.h,x.b,x.f,x.i⟩ n C.a.b.length hI hF hlen hfr ?_ (by omega)) fun e r hr=>.pp hr fun C' y hr=>.mk ?_
   · obtain _ | n:=n
     · exact hx.elim
     · exact ⟨hx.1,hx.2.1,hx.2.2.1,hx.2.2.2.1,⟨hx.2.2.2.2.decl,hx.2.2.2.2.call,hx.2.2.2.2.func,hx.2.2.2.2.type,hx.2.2.2.2.kind,hx.2.2.2.2.ret⟩⟩
   · obtain ⟨p1,p2,p3,p4,p5,p6,p7⟩:=hr
     refine ⟨p1,hS.trans p2,p3,fun z=>?_⟩
     obtain ⟨q1,q2,c,q3,q4⟩:=p7 z
     exact .one p6 (by rw [p4,p5];exact get p2) q2 q1 q3 q4
theorem zy:∀ fu:Nat,Vu fu∧UX fu∧Vx fu∧VB fu
 | 0=>⟨fun _ _ _ _ _ _ _ _ h=>by omega,fun _ _ _ _ _ _ _ h=>by omega,fun _ _ _ _ _ _ _ _ _ _ h=>by omega,fun _ _ _ _ _ _ _ _ h=>by omega⟩
 | fu+1=>by
  have ih:=zy fu
  exact ⟨R8 ih.2.1,RP ih.2.2.1,PP ih.2.2.2,Qq ih.1⟩
end Go.Proofs.Ytfglbdkfnphjgaa
set_option linter.unusedVariables false
set_option linter.unusedSimpArgs false
namespace Go.Proofs.Ytfglbdkfnphjgaa
open Go.RowKit Go.Fw
theorem SN.ext {K e:List ky} {V:List jA} {S:List Int} {f:Int} {l:List jM} {a b:Nat} (h:SN K V S f l a b):SN (K ++ e) V S f l a b:=by
 induction h with
 | nil=>exact .nil _
 | cons h k r1 r2 _ _ _ i1 i2 i3=>exact .cons h (by rw [List.getElem?_append_left (kE k)];exact k) r1 r2 i1 i2 i3
structure FK (K:List ky) (i:Nat) (fn:kC) (V:List jA) (a b:Nat):Prop where
 sn:SN K V [] i fn.f a b
 vr:∀ x ∈ V,(a:Int)≤x.d∧x.d≤b∧x.d - 1≤x.g∧x.g≤(b:Int) - 1∧(x.c=true→x.d=a∧x.g=(b:Int) - 1)
 vn:V.length≤24
def Fp (Fs:List kC) (Vs:List (List jA)) (K:List ky):Prop:=K.length≤200∧Fs.length=Vs.length∧∃ B:Nat→Nat,B 0=0∧B Vs.length=K.length∧∀ (i:Nat) (fn:kC) (V:List jA),Fs[i]?=some fn→Vs[i]?=some V→FK K i fn V (B i) (B (i+1))
theorem Fp.snoc {Fs:List kC} {Vs:List (List jA)} {K e:List ky} {fn:kC} {V:List jA} (h:Fp Fs Vs K) (hl:(K ++ e).length≤200) (k:FK (K ++ e) Vs.length fn V K.length (K ++ e).length):Fp (Fs ++ [fn]) (Vs ++ [V]) (K ++ e):=by
 obtain ⟨h1,h2,B,h3,h4,h5⟩:=h
 refine ⟨hl,by rw [jY,jY,h2],fun j=>if j≤Vs.length then B j else (K ++ e).length,by dsimp only;rw [if_pos (Nat.zero_le _)];exact h3,by dsimp only;rw [jY,if_neg (by omega)],fun i f W hf hW=>?_⟩
 dsimp only
 by_cases c:i < Vs.length
 · rw [List.getElem?_append_left (by omega)] at hf
   rw [List.getElem?_append_left c] at hW
   rw [if_pos (by omega),if_pos (by omega)]
   have:=h5 i f W hf hW
   exact ⟨this.sn.ext,this.vr,this.vn⟩
 · have hl:=kE hW
   rw [jY] at hl
   obtain rfl:i=Vs.length:=by omega
   rw [List.getElem?_append_right (by omega),h2,Nat.sub_self] at hf
   rw [List.getElem?_append_right (Nat.le_refl _),Nat.sub_self] at hW
   obtain rfl:=Option.some.inj hf
   obtain rfl:=Option.some.inj hW
   rw [if_pos (Nat.le_refl _),if_neg (by omega),h4]
   exact k
theorem Oj {fu:Nat} {F:Int} {C:jD} (h:CI F C):kI (lC fu C 0) (fun C'=>CS C C'∧C'.d=[]∧C'.a=C.a∧C'.g.length≤24∧∀ x ∈ C'.g,F≤x.d∧x.d≤C.a.b.length∧x.d - 1≤x.g∧x.g≤(C.a.b.length:Int) - 1∧(x.c=true→x.d=F∧x.g=(C.a.b.length:Int) - 1)):=by
 have hst:=h.st;have hsl:=h.sl;have hvn:=h.vn
 unfold lC
 refine .bd (.sl ⟨Int.le_refl _,by omega,Int.le_refl _⟩) fun l hl=>?_
 have hl':l=C.d:=by
   rw [hl]
   simp
 subst hl'
 refine .el (Dt rfl hst (O:=fun _=>False) C.d 0 C.g h.sc) (fun V hV=>?_) fun _ z=>z.elim
 refine .bd (.sl ⟨Int.le_refl _,Int.le_refl _,by omega⟩) fun q hq=>.mk ?_
 have hq':q=[]:=by
   rw [hq]
   simp
 subst hq'
 obtain ⟨v1,v2⟩:=hV
 have back:∀ {i:Nat} {y:jA},V[i]?=some y→∃ x,C.g[i]?=some x∧y.c=x.c∧y.d=x.d∧((i:Int) ∈ C.d→y.g=(C.a.b.length:Int) - 1)∧((i:Int) ∉ C.d→y.g=x.g):=fun {i y} hy=>by
   obtain ⟨x,hx⟩:=lL (l:=C.g) (k:=i) (by have:=kE hy;omega)
   obtain ⟨y',hy',a1,a2,a3,a4,a5,a6,a7⟩:=v2 i x hx
   rw [hy] at hy'
   cases hy'
   exact ⟨x,hx,a4,a5,a6,a7⟩
 refine ⟨⟨rfl,rfl,rfl,rfl,rfl,rfl,⟨[],(List.append_nil _).symm⟩,fun i x hx=>?_,fun i y hy hyp=>?_⟩,rfl,rfl,by dsimp only;omega,fun y hy=>?_⟩
 · obtain ⟨y,hy,a1,a2,a3,a4,a5,a6,a7⟩:=v2 i x hx
   exact ⟨y,hy,a1,a2,a5,fun k=>.inr (by have:=a6 k;omega),fun k=>⟨fun z=>(by cases z),a7 k⟩⟩
 · obtain ⟨x,hx,a3,_⟩:=back hy
   exact ⟨x,hx,by rw [← a3];exact hyp⟩
 · obtain ⟨i,hi⟩:=List.mem_iff_getElem?.1 hy
   obtain ⟨x,hx,a3,a4,a5,a6⟩:=back hi
   obtain ⟨b1,b2,b3,b4⟩:=h.vr i x hx
   rw [a3,a4]
   by_cases c:(i:Int) ∈ C.d
   · have:=a5 c
     exact ⟨b1,b2,by omega,by omega,fun z=>⟨(b4 z).1,this⟩⟩
   · have:=a6 c
     have:=b3.resolve_left c
     exact ⟨b1,b2,by omega,by omega,fun z=>absurd (b4 z).2 c⟩
theorem CQ {fu:Nat}:∀ (l:List ByteArray) (k:Nat) (s:List (ByteArray × Bool)),kI (lN fu l k s) (oK (fun _=>True) (fun _=>True))
 | [],_,_=>.go trivial
 | u :: r,k,s=>by
  rw [lN]
  exact .ite (fun _=>.out trivial) fun _=>CQ r (k+1) _
theorem Hm {fu:Nat} {l:List ByteArray}:kI (oh fu l) (fun _=>True):=by
 unfold oh
 exact .el (CQ _ _ _) (fun _ _=>.mk trivial) fun _ _=>.mk trivial
theorem MF {fu:Nat} {l:List ByteArray} (h:l.length≤5000):kI (qM fu l) (fun r=>r=l):=by
 unfold qM
 refine .bd (.app (by rw [List.length_nil];omega)) fun r hr=>.mk ?_
 rw [hr,List.nil_append]
structure PI (C:jD):Prop where
 rm:∀ n i,qa C.h n=some i→0≤i∧i < C.a.a.a.length
 fm:∀ n i,qa C.e n=some i→0≤i∧i < C.b.length
 fl:C.a.a.b.length≤5000
 rl:C.a.a.a.length≤5000∧∀ r ∈ C.a.a.a,r.b.length≤5000
 pl:∀ f ∈ C.a.a.b,f.b.length≤5000
 ok:Fp C.a.a.b C.a.c C.a.b
theorem AY {fu:Nat} {S:jW} {rc fc:List (ByteArray × Int)} {pa:List Int} {cu:Int} (h200:S.b.length≤200) {O:Int × jD→Prop}:∀ (l:List ByteArray) (k:Nat) (C:jD),CI S.b.length C→C.g.length+l.length≤4→C.a=S∧C.h=rc∧C.e=fc∧C.b=pa∧C.f=cu→
  kI (lQ fu l k C.d C.g C.f C.c C.h C.e C.a.a.a C.a.a.b C.a.c C.a.b C.b)
   (oK (fun r=>iA r fun a1 r=>iA r fun a2 r=>iA r fun a3 r=>iA r fun a4 r=>iA r fun a5 r=>iA r fun a6 r=>iA r fun a7 r=>iA r fun a8 r=>iA r fun a9 r=>iA r fun a10 a11=>CI S.b.length ⟨a5,a6,⟨⟨a7,a8⟩,a9,a10⟩,a11,a2,a1,a3,a4⟩∧(⟨⟨a7,a8⟩,a9,a10⟩:jW)=S∧a5=rc∧a6=fc∧a11=pa∧a3=cu) O)
 | [],k,C,hC,_,h=>.go ⟨hC,h⟩
 | u :: r,k,C,hC,hl,h=>by
  rw [lQ]
  rw [List.length_cons] at hl
  have hlen:C.a.b.length=S.b.length:=by rw [h.1]
  refine .bp (QV (C:=C) (v:=⟨u,1,-1,1,true,0,0⟩) hC (by omega) (fun z=>absurd z (by show ¬ (1:Int)=2;decide)) (by omega) (fun _=>by omega)) fun i C' hr=>?_
  obtain ⟨q1,q2,q3,q4,q5,q6,q7,q8,q9⟩:=hr
  exact AY h200 r (k+1) C' q1 (by omega) ⟨q4.trans h.1,q5.trans h.2.1,q6.trans h.2.2.1,q7.trans h.2.2.2.1,q8.trans h.2.2.2.2⟩
theorem Ga {fu:Nat} (hf:10100≤fu) {C:jD} (h:PI C) {fn:kC} (hfn:SY 5000 fn) (hi:C.a.a.b.length < 5000):kI (oW fu C (C.a.c.length:Int) fn) (fun r=>iA r fun e C'=>e=0→PI C'∧C'.a.a.b.length=C.a.a.b.length+1):=by
 unfold oW
 refine .ite (fun _=>.mk fun z=>absurd z (by decide)) fun c=>.bd Hm fun b _=>.ite (fun _=>.mk fun z=>absurd z (by decide)) fun _=>?_
 have h200:=h.ok.1
 have hv:=h.ok.2.1
 refine .el (AY (S:=C.a) (rc:=C.h) (fc:=C.e) (pa:=C.b) (cu:=(C.a.c.length:Int)) h200 (O:=fun _=>False) fn.b 0 ⟨C.h,C.e,C.a,C.b,[],[],(C.a.c.length:Int),fn.c⟩ ⟨Nat.zero_le _,fun v hv=>(by cases hv),Nat.le_refl _,h200,h.rm,h.fm,fun x hx=>(by cases hx),fun i x hx=>(by cases hx)⟩ (by show 0+fn.b.length≤4;omega) ⟨rfl,rfl,rfl,rfl,rfl⟩) (fun r hr=>?_) fun _ z=>z.elim
 refine .pp hr fun a1 r hr=>.pp hr fun a2 r hr=>.pp hr fun a3 r hr=>.pp hr fun a4 r hr=>.pp hr fun a5 r hr=>.pp hr fun a6 r hr=>.pp hr fun a7 r hr=>.pp hr fun a8 r hr=>.pp hr fun a9 r hr=>.pp hr fun a10 a11 hr=>?_
 obtain ⟨i1,i2,i3,i4,i5,i6⟩:=hr
 have e1:a10.length=C.a.b.length:=by rw [← i2]
 refine .bp ((zy fu).1 _ _ fn.f 10 i1 (by dsimp only;omega) hfn.body hfn.el (by omega)) fun bo r hr=>.pp hr fun e C2 hr=>?_
 obtain ⟨l1,l2,l3,l4⟩:=hr
 refine .ite (fun c=>.mk fun z=>absurd z c) fun c=>.bd (Oj l1) fun C3 hC3=>.bd (MF hfn.b) fun ps hps=>?_
 obtain ⟨k1,k2,k3,k4,k5⟩:=hC3
 have hpg:C3.a.a=C.a.a:=by rw [k3,l2.pg,← i2]
 have hvs:C3.a.c=C.a.c:=by rw [k3,l2.vs,← i2]
 refine .bd (.app (by rw [hpg];simp only [List.length_cons,List.length_nil];omega)) fun r1 hr1=>.bd (.app (by rw [hvs];simp only [List.length_cons,List.length_nil];omega)) fun r2 hr2=>.mk fun _=>?_
 subst hr1 hr2
 obtain ⟨d,hd⟩:=l2.st
 have hst:C3.a.b=C.a.b ++ d:=by rw [k3,hd,← i2]
 have hrc:C3.h=C.h:=by rw [k1.rc,l2.rc];exact i3
 have hfc:C3.e=C.e:=by rw [k1.fc,l2.fc];exact i4
 have hpa:C3.b=C.b:=by rw [k1.pa,l2.pa];exact i5
 refine ⟨⟨?_,?_,?_,?_,?_,?_⟩,?_⟩
 · dsimp only
   rw [hrc,hpg]
   exact h.rm
 · dsimp only
   rw [hfc,hpa]
   exact h.fm
 · dsimp only
   rw [jY,hpg]
   omega
 · dsimp only
   rw [hpg]
   exact h.rl
 · dsimp only
   rw [hpg]
   exact pq h.pl (by dsimp only;rw [hps];exact hfn.b)
 · dsimp only
   rw [hpg,hvs,hst]
   have hl2:=l1.st
   have hK:C2.a.b=C.a.b ++ d:=by rw [← k3];exact hst
   refine h.ok.snoc (by rw [← hK];exact hl2) ⟨?_,?_,k4⟩
   · have:=(l4 (by omega)).mv k1
     rw [k2,k3,hK] at this
     dsimp only at this
     rw [i6,e1] at this
     exact this
   · intro x hx
     have:=k5 x hx
     rw [hK] at this
     exact this
 · dsimp only
   rw [jY,hpg]
theorem Ef {fu:Nat} {C:jD}:∀ (l:List kD) (k:Nat) (m:List (ByteArray × Int)) (rs:List kD),rs.length=k→(∀ n i,qa m n=some i→0≤i∧i < (k:Int))→(rs.length≤5000∧∀ r ∈ rs,r.b.length≤5000)→
  kI (l8 fu C l k m rs) (oK (fun r=>iA r fun m' rs'=>(∀ n i,qa m' n=some i→0≤i∧i < rs'.length)∧rs'.length≤5000∧∀ r ∈ rs',r.b.length≤5000) (fun r=>iA r fun e _=>e≠0))
 | [],k,m,rs,h1,h2,h3=>.go ⟨fun n i hi=>by rw [h1];exact h2 n i hi,h3⟩
 | u :: r,k,m,rs,h1,h2,h3=>by
  rw [l8]
  refine .ite (fun _=>.out (by show (5:Int)≠0;decide)) fun c=>.ite (fun _=>.out (by show (5:Int)≠0;decide)) fun c2=>.ite (fun _=>.out (by show (9:Int)≠0;decide)) fun _=>.bd Hm fun b _=>.ite (fun _=>.out (by show (9:Int)≠0;decide)) fun _=>.bd (MF (by omega)) fun fs hfs=>.bd (.app (by simp only [List.length_cons,List.length_nil];omega)) fun q hq=>?_
  subst hq
  refine Ef r (k+1) _ _ (by rw [jY,h1]) (fun n i hi=>?_) ⟨by rw [jY];omega,pq h3.2 (by dsimp only;rw [hfs];omega)⟩
  rw [DV] at hi
  split at hi
  · cases hi;omega
  · have:=h2 n i hi;omega
theorem DF {fu:Nat} {C:jD} {m:List (ByteArray × Int)} {rs:List kD}:∀ (l:List kC) (k:Nat) (ln:Int) (fm:List (ByteArray × Int)) (ps:List Int),ps.length=k→(∀ n i,qa fm n=some i→0≤i∧i < (k:Int))→
  kI (lZ fu C m rs l k ln fm ps) (oK (fun r=>iA r fun _ r=>iA r fun fm' ps'=>∀ n i,qa fm' n=some i→0≤i∧i < ps'.length) (fun r=>iA r fun e _=>e≠0))
 | [],k,ln,fm,ps,h1,h2=>.go fun n i hi=>by rw [h1];exact h2 n i hi
 | u :: r,k,ln,fm,ps,h1,h2=>by
  rw [lZ]
  refine .ite (fun _=>.out (by show (5:Int)≠0;decide)) fun c=>.ite (fun _=>.out (by show (9:Int)≠0;decide)) fun _=>.bd (.app (by simp only [List.length_cons,List.length_nil];omega)) fun q hq=>?_
  subst hq
  refine DF r (k+1) _ _ _ (by rw [jY,h1]) fun n i hi=>?_
  rw [DV] at hi
  split at hi
  · cases hi;omega
  · have:=h2 n i hi;omega
theorem D9 {fu:Nat} (hf:10100≤fu):∀ (l:List kC) (k:Nat) (C:jD),PI C→C.a.a.b.length=k→k+l.length≤5000→(∀ f ∈ l,SY 5000 f)→
  kI (l5 fu l k C.g C.f C.c C.h C.e C.a.a.a C.a.a.b C.a.c C.a.b C.b C.d)
   (oK (fun r=>iA r fun a1 r=>iA r fun a2 r=>iA r fun a3 r=>iA r fun a4 r=>iA r fun a5 r=>iA r fun a6 r=>iA r fun a7 r=>iA r fun a8 r=>iA r fun a9 r=>iA r fun a10 a11=>Fp a7 a8 a9∧a7.length≤5000∧(a6.length≤5000∧∀ r ∈ a6,r.b.length≤5000)∧∀ f ∈ a7,f.b.length≤5000) (fun r=>iA r fun e _=>e≠0))
 | [],k,C,hC,_,_,_=>.go ⟨hC.ok,hC.fl,hC.rl,hC.pl⟩
 | u :: r,k,C,hC,hk,hl,hF=>by
  rw [l5]
  rw [List.length_cons] at hl
  have hv:=hC.ok.2.1
  have e:((k:Nat):Int)=(C.a.c.length:Int):=by omega
  rw [e]
  refine .bp (Ga hf hC (hF u (List.mem_cons_self ..)) (by omega)) fun e C' hr=>.ite (fun c=>.out c) fun c=>?_
  obtain ⟨h1,h2⟩:=hr (by omega)
  exact D9 hf r (k+1) C' h1 (by omega) (by omega) fun f hf=>hF f (List.mem_cons_of_mem _ hf)
theorem Ny {fu:Nat} (hf:10100≤fu) {p:jJ} (hp:MR 5000 p):kI (qW fu ⟨[],[],⟨⟨[],[]⟩,[],[]⟩,[],[],[],0,0⟩ p) (fun r=>iA r fun e C'=>e=0→Fp C'.a.a.b C'.a.c C'.a.b∧C'.a.a.b.length≤5000∧(C'.a.a.a.length≤5000∧∀ r ∈ C'.a.a.a,r.b.length≤5000)∧∀ f ∈ C'.a.a.b,f.b.length≤5000):=by
 unfold qW
 have out:∀ {o:Int × jD},(iA o fun e _=>e≠0)→(fun r:Int × jD=>iA r fun e C'=>e=0→Fp C'.a.a.b C'.a.c C'.a.b∧C'.a.a.b.length≤5000∧(C'.a.a.a.length≤5000∧∀ r ∈ C'.a.a.a,r.b.length≤5000)∧∀ f ∈ C'.a.a.b,f.b.length≤5000) o:=fun {o} h=>by
  obtain ⟨e,C'⟩:=o
  exact fun z=>absurd z h
 refine .el (Ef p.a 0 [] [] rfl (fun n i hi=>(by cases hi)) ⟨Nat.zero_le _,fun r hr=>(by cases hr)⟩) (fun r hr=>.pp hr fun m rs hm=>?_) fun o ho=>.mk (out ho)
 refine .el (DF p.b 0 _ [] [] rfl fun n i hi=>(by cases hi)) (fun r hr=>.pp hr fun ln r hr=>.pp hr fun fm ps hfm=>?_) fun o ho=>.mk (out ho)
 refine .el (D9 hf p.b 0 ⟨m,fm,⟨⟨rs,[]⟩,[],[]⟩,ps,[],[],0,ln⟩ ⟨hm.1,hfm,Nat.zero_le _,hm.2,fun f hf=>(by cases hf),Nat.zero_le _,rfl,fun _=>0,rfl,rfl,fun i fn V h=>(by cases h)⟩ rfl (by have:=hp.e;omega) hp.el) (fun r hr=>?_) fun o ho=>.mk (out ho)
 exact .pp hr fun a1 r hr=>.pp hr fun a1 r hr=>.pp hr fun a1 r hr=>.pp hr fun a1 r hr=>.pp hr fun a1 r hr=>.pp hr fun a1 r hr=>.pp hr fun a1 r hr=>.pp hr fun a1 r hr=>.pp hr fun a1 r hr=>.pp hr fun a1 a2 hr=>.mk fun _=>hr
theorem PV {fu:Nat} (hf:10100≤fu) {p:jJ} (hp:MR 5000 p):kI (oF fu p) (fun r=>iA r fun s r=>iA r fun _ e=>e=0→Fp s.a.b s.c s.b∧s.a.b.length≤5000∧(s.a.a.length≤5000∧∀ r ∈ s.a.a,r.b.length≤5000)∧∀ f ∈ s.a.b,f.b.length≤5000):=by
 unfold oF
 exact .bp (Ny hf hp) fun e C' hr=>.ite (fun c=>.mk fun z=>absurd z c) fun c=>.mk fun _=>hr (by omega)
end Go.Proofs.Ytfglbdkfnphjgaa
set_option linter.unusedVariables false
set_option linter.unusedSimpArgs false
namespace Go.Proofs.Ytfglbdkfnphjgaa
open Go.RowKit Go.Fw
theorem Dn {α β:Type} {x:α} {f:α→Option β}:(some x).bind f=f x:=rfl
theorem SN.le {K:List ky} {V:List jA} {S:List Int} {f:Int} {l:List jM} {a b:Nat} (h:SN K V S f l a b):a≤b:=by
 induction h with
 | nil=>exact Nat.le_refl _
 | cons h k r1 r2 _ _ _ i1 i2 i3=>omega
theorem MR.nil {N:Nat}:MR N ⟨[],[]⟩:=⟨Nat.zero_le _,fun r hr=>(by cases hr),Nat.zero_le _,fun r hr=>(by cases hr)⟩
theorem UO {s:jW} {B:Nat→Nat} (h200:s.b.length≤200) (hl:s.a.b.length=s.c.length) (hB:B s.c.length=s.b.length) (hF:∀ (i:Nat) (fn:kC) (V:List jA),s.a.b[i]?=some fn→s.c[i]?=some V→FK s.b i fn V (B i) (B (i+1))):∀ (k i:Nat),i+k=s.c.length→B i≤200
 | 0,i,h=>by rw [show i=s.c.length from by omega,hB];exact h200
 | k+1,i,h=>by
  obtain ⟨fn,hfn⟩:=lL (l:=s.a.b) (k:=i) (by omega)
  obtain ⟨V,hV⟩:=lL (l:=s.c) (k:=i) (by omega)
  have:=(hF i fn V hfn hV).sn.le
  have:=UO h200 hl hB hF k (i+1) (by omega)
  omega
end Go.Proofs.Ytfglbdkfnphjgaa
set_option linter.unusedVariables false
set_option linter.unusedSimpArgs false
namespace Go.Proofs.Ytfglbdkfnphjgaa
open Go.RowKit Go.Fw
theorem ES {α:Type} {l:List α} {i:Nat} {x:α} (h:l[i]?=some x):ix l (i:Int)=some x:=by
 unfold Go.Fw.ix
 rw [if_neg (by omega),Int.toNat_natCast,h]
theorem FT {i:Nat} (h:i≤100000):wr ((i:Int)+1)=((i+1:Nat):Int):=by rw [lD (by omega) (by omega)];omega
theorem Ku {fu:Nat} {l:List ByteArray} (hl:l.length≤5000):∀ (n i:Nat),i≤l.length→l.length+1≤n+i→∃ j,sN fu l l n i=some (.go j)
 | 0,i,h1,h2=>by omega
 | n+1,i,h1,h2=>by
  rw [sN]
  by_cases c:i < l.length
  · obtain ⟨x,hx⟩:=lL (l:=l) (k:=i) c
    rw [if_pos (by omega),ES hx,Dn,Dn,if_neg (by simp),FT (by omega)]
    exact Ku hl n (i+1) (by omega) (by omega)
  · rw [if_neg (by omega)]
    exact ⟨_,rfl⟩
theorem QY {fu:Nat} (hf:5001≤fu) {l:List ByteArray} (hl:l.length≤5000):uy fu l l=some true:=by
 unfold uy
 obtain ⟨j,hj⟩:=Ku (fu:=fu) hl fu 0 (Nat.zero_le _) (by omega)
 rw [if_neg (by simp)]
 exact (congrArg (fun z=>Option.bind z _) hj).trans rfl
theorem Ot:∀ (fu d:Nat) (l:List jL),l.length≤5000→(∀ y ∈ l,Af d y)→d+5002≤fu→sj fu l l=some true
 | 0,_,_,_,_,h=>by omega
 | fu+1,d,l,hl,he,hf=>by
  change x8 fu (sj fu) l l=_
  unfold x8
  have hL:∀ (n i:Nat),i≤l.length→l.length+1≤n+i→∃ j,tT fu (sj fu) l l n i=some (.go j):=by
   intro n
   induction n with
   | zero=>intro i h1 h2;omega
   | succ n ih=>
    intro i h1 h2
    rw [tT]
    by_cases c:i < l.length
    · obtain ⟨x,hx⟩:=lL (l:=l) (k:=i) c
      have hxe:=he x (List.mem_of_getElem? hx)
      obtain _ | d:=d
      · exact hxe.elim
      rw [if_pos (by omega),ES hx,Dn,Dn,if_neg (by simp),if_neg (by simp),if_neg (by simp),if_neg (by simp),if_neg (by simp),Ot fu d x.b hxe.1 hxe.2 (by omega),Dn,if_neg (by decide),FT (by omega)]
      exact ih (i+1) (by omega) (by omega)
    · rw [if_neg (by omega)]
      exact ⟨_,rfl⟩
  obtain ⟨j,hj⟩:=hL fu 0 (Nat.zero_le _) (by omega)
  rw [if_neg (by simp)]
  exact (congrArg (fun z=>Option.bind z _) hj).trans rfl
theorem SN.el {K:List ky} {V:List jA} {S:List Int} {f:Int} {l:List jM} {a b:Nat} (h:SN K V S f l a b):l.length≤b - a∧∀ x ∈ l,∃ a' c d:Nat,a≤a'∧d≤b∧JR V S a' x.b∧JR V S a' x.d∧SN K V S f x.f (a'+1) c∧SN K V S f x.i c d:=by
 induction h with
 | nil=>exact ⟨Nat.zero_le _,fun x hx=>by cases hx⟩
 | @cons x l a c d b hid hk r1 r2 s1 s2 s3 _ _ i3=>
  have l1:=s1.le;have l2:=s2.le;have l3:=s3.le
  refine ⟨by rw [List.length_cons];have:=i3.1;omega,fun y hy=>?_⟩
  rcases List.mem_cons.1 hy with hy | hy
  · rw [hy]
    exact ⟨a,c,d,Nat.le_refl _,l3,r1,r2,s1,s2⟩
  · obtain ⟨a',c',d',e1,e2,e3⟩:=i3.2 y hy
    exact ⟨a',c',d',by omega,e2,e3⟩
theorem OO {K:List ky} {V:List jA} {S:List Int} {f:Int} {q:Bool}:∀ (fu:Nat) (l:List jM) (a b:Nat),SN K V S f l a b→b≤200→b - a+10010≤fu→rZ fu l l q=some true
 | 0,_,_,_,_,_,h=>by omega
 | fu+1,l,a,b,h,hb,hf=>by
  change xJ fu (rZ fu) l l q=_
  unfold xJ
  obtain ⟨h1,h2⟩:=h.el
  have hL:∀ (n i:Nat),i≤l.length→l.length+1≤n+i→∃ j,tV fu (rZ fu) l l q n i=some (.go j):=by
   intro n
   induction n with
   | zero=>intro i h1 h2;omega
   | succ n ih=>
    intro i g1 g2
    rw [tV]
    by_cases c:i < l.length
    · obtain ⟨x,hx⟩:=lL (l:=l) (k:=i) c
      obtain ⟨a',c',d',e1,e2,e3,e4,e5,e6⟩:=h2 x (List.mem_of_getElem? hx)
      have p1:=e5.le;have p2:=e6.le
      have hJ:wU fu (rZ fu) q x x=some (.go ()):=by
       unfold wU
       rw [if_neg (by simp),if_neg (by simp),if_neg (by simp),if_neg (by simp),if_neg (by simp),if_neg (by simp),if_neg (by simp),if_neg (by simp)]
       by_cases cq:q=true
       · rw [if_pos cq,if_neg (by simp)]
       · rw [if_neg cq]
      rw [if_pos (by omega),ES hx,Dn,Dn,hJ,Dn]
      change ∃ j,(sj fu x.d x.d).bind _=_
      rw [Ot fu 5000 x.d e4.2.2 e4.2.1 (by omega),Dn,if_neg (by decide),Ot fu 5000 x.b e3.2.2 e3.2.1 (by omega),Dn,if_neg (by decide),OO fu x.f (a'+1) c' e5 (by omega) (by omega),Dn,if_neg (by decide),OO fu x.i c' d' e6 (by omega) (by omega),Dn,if_neg (by decide),FT (by omega)]
      exact ih (i+1) (by omega) (by omega)
    · rw [if_neg (by omega)]
      exact ⟨_,rfl⟩
  obtain ⟨j,hj⟩:=hL fu 0 (Nat.zero_le _) (by omega)
  rw [if_neg (by simp)]
  exact (congrArg (fun z=>Option.bind z _) hj).trans rfl
end Go.Proofs.Ytfglbdkfnphjgaa
