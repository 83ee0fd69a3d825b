/- The two checkers side by side: names, declarations, expressions. -/
import Derived.Test.YtfglbdkfnphjgaaY5
import Derived.Test.YtfglbdkfnphjgaaLg
set_option linter.unusedVariables false
set_option linter.unusedSimpArgs false
namespace Go.Proofs.Ytfglbdkfnphjgaa
open Go.RowKit Go.Fw
theorem BP {α β:Type} {x:α} {f:α→Option β} {X:Option β} (h:(some x).bind f=X):f x=X:=h
def xq (fs:List kC) (C:jD):fV:=⟨⟨⟨C.a.a.a,fs⟩,C.a.c ++ [C.g],C.a.b⟩,C.f,C.d,0,0⟩
theorem Ol {C:jD} (hc:C.f=C.a.c.length):ix (C.a.c ++ [C.g]) C.f=some C.g:=by
 unfold Go.Fw.ix
 rw [hc,if_neg (by omega),Int.toNat_natCast,List.getElem?_append_right (Nat.le_refl _),Nat.sub_self]
 rfl
theorem Ff {fu gu:Nat} {fs:List kC} {C:jD} (hc:C.f=C.a.c.length) {n:ByteArray}:∀ (l:List Int) (k:Nat),oU gu (xq fs C) n l k=mh fu C n l k
 | [],_=>rfl
 | u :: r,k=>by
  rw [oU,mh,Ff (fu:=fu) hc r]
  show (ix (C.a.c ++ [C.g]) C.f).bind _=_
  rw [Ol hc]
  rfl
theorem FW {fu gu:Nat} {fs:List kC} {C:jD} (hc:C.f=C.a.c.length) {n:ByteArray}:tY gu (xq fs C) n=oN fu C n:=by
 unfold tY oN
 rw [show (xq fs C).b=C.d from rfl,Ff (fu:=fu) hc]
theorem Am {fu:Nat} {fs:List kC} {C:jD} {ln e:Int}:lh fu (xq fs C) ln e=some ⟨(xq fs C).a,C.f,C.d,ln,e⟩:=if_pos rfl
def Zr {α:Type} (fs:List kC) (y:α) (e:Int) (C':jD) (y':α) (S':fV):Prop:=(e=0→y'=y∧S'=xq fs C')∧(e≠0→S'.e=e∧S'.c=C'.c)
theorem IM {fu gu:Nat} {fs:List kC} {C C':jD} (hc:C.f=C.a.c.length) {v:jA} {i e i':Int} {S':fV} (h:nA fu C v=some (i,e,C')) (k:nR gu (xq fs C) C.c ⟨v.a,v.e,v.b,v.f,v.c,(C.a.b.length:Int),v.g⟩=some (i',S')):Zr fs i e C' i' S':=by
 unfold nA at h
 unfold nR at k
 rw [FW (fu:=fu) hc] at k
 obtain ⟨⟨w,b⟩,h1,h⟩:=bs h
 rw [h1] at k
 replace h:=pi h
 replace k:=pi (BP k)
 rw [show (xq fs C).a.c=C.a.c ++ [C.g] from rfl,show (xq fs C).f=C.f from rfl,Ol hc] at k
 replace k:=BP k
 rw [if_neg (show ¬ (xq fs C).e≠0 from fun z=>z rfl)] at k
 rcases kF h with ⟨c,h⟩|⟨c,h⟩
 · rw [if_pos c,Am] at k
   have h:=sm h
   injection h with _ h
   injection h with he hC
   subst he hC
   have k:=sm (BP k)
   injection k with _ hS
   subst hS
   exact ⟨fun z=>absurd z (by decide),fun _=>⟨rfl,rfl⟩⟩
 rw [if_neg c] at k
 rcases kF h with ⟨c2,h⟩|⟨c2,h⟩
 · rw [if_pos c2,Am] at k
   have h:=sm h
   injection h with _ h
   injection h with he hC
   subst he hC
   have k:=sm (BP k)
   injection k with _ hS
   subst hS
   exact ⟨fun z=>absurd z (by decide),fun _=>⟨rfl,rfl⟩⟩
 rw [if_neg c2] at k
 obtain ⟨⟨j,C1⟩,h2,h⟩:=bs h
 replace h:=pi h
 have h:=sm h
 injection h with hi h
 injection h with he hC
 subst hi he hC
 unfold pR at h2
 obtain ⟨r,hr,h2⟩:=bs h2
 obtain ⟨q,hq,h2⟩:=bs h2
 obtain ⟨r',hr',k1⟩:=bs k
 obtain ⟨q',hq',k2⟩:=bs k1
 obtain ⟨V,hV,k3⟩:=bs k2
 clear k k1 k2
 have h5:=sm h2
 injection h5 with hj hC
 have k4:=sm k3
 injection k4 with hk hS
 clear h2 k3
 obtain ⟨_,rfl⟩:=pK hr
 obtain ⟨_,rfl⟩:=pK hq
 obtain ⟨_,rfl⟩:=pK hr'
 obtain ⟨_,rfl⟩:=pK hq'
 rw [jY,lD (by omega) (by omega)] at hj
 have e1:((C.g.length+1:Nat):Int) - 1=C.g.length:=by omega
 rw [e1] at hj
 refine ⟨fun _=>⟨by rw [← hk,← hj],?_⟩,fun z=>absurd rfl z⟩
 subst hS hC
 unfold Go.Fw.st at hV
 rcases kF hV with ⟨_,hV⟩|⟨_,hV⟩
 · have hV:=sm hV
   rw [hc,Int.toNat_natCast,List.set_append_right _ _ (Nat.le_refl _),Nat.sub_self] at hV
   rw [← hV]
   unfold xq
   dsimp only [List.set]
   rw [jY,lD (by omega) (by omega),e1]
 · cases hV
theorem Ud {gu:Nat} {r1:fV→List jL→Int→Option (List jL × fV)} {r2:fV→jL→Int→Option (jL × fV)} {x:jL}:∀ (l:List ByteArray) (k:Nat) (a:Int),x.c ∉ l→mU gu r1 r2 x l k a=some (.go a)
 | [],_,_,_=>by rw [mU]
 | u :: r,k,a,h=>by
  rw [mU,if_neg (fun z=>h (by rw [← z];exact List.mem_cons_self ..))]
  exact Ud r (k+1) a fun z=>h (List.mem_cons_of_mem _ z)
theorem MX {fu gu:Nat} {r1:fV→List jL→Int→Option (List jL × fV)} {r2:fV→jL→Int→Option (jL × fV)} {x:jL}:∀ (l:List ByteArray) (k:Nat) (a:Int),l.Nodup→(mP fu x.c l k=some (.go ())∧mU gu r1 r2 x l k a=some (.go a)) ∨ ∃ n:Nat,mP fu x.c l k=some (.out (n:Int))∧mU gu r1 r2 x l k a=some (.go (n:Int))
 | [],_,_,_=>.inl ⟨by rw [mP],by rw [mU]⟩
 | u :: r,k,a,h=>by
  obtain ⟨h1,h2⟩:=List.nodup_cons.1 h
  rw [mP,mU]
  by_cases c:u=x.c
  · rw [if_pos c.symm,if_pos c]
    exact .inr ⟨k,rfl,Ud r (k+1) k (by rw [← c];exact h1)⟩
  · rw [if_neg fun z=>c z.symm,if_neg c]
    exact MX r (k+1) a h2
def VE (fu:Nat):Prop:=∀ (gu:Nat) (fs:List kC) (C C':jD) (x y y':jL) (e:Int) (S':fV),C.f=C.a.c.length→(∀ r ∈ C.a.a.a,r.b.Nodup)→kW fu C x=some (y,e,C')→rF gu (xq fs C) x C.c=some (y',S')→C'=C∧Zr fs y e C' y' S'
def Vw (fu:Nat):Prop:=∀ (gu:Nat) (fs:List kC) (C C':jD) (x y y':List jL) (e:Int) (S':fV),C.f=C.a.c.length→(∀ r ∈ C.a.a.a,r.b.Nodup)→kg fu C x=some (y,e,C')→mG gu (xq fs C) x C.c=some (y',S')→C'=C∧Zr fs y e C' y' S'
def Tg (S S':fV):Prop:=S'.e=S.e∧S'.c=S.c
theorem OP {fu:Nat} {S S':fV} {x y:jL} {ln:Int} (hS:S.e≠0) (h:rF fu S x ln=some (y,S')):S'=S:=by
 obtain _ | fu:=fu
 · cases h
 · change uU fu _ _ S x ln=_ at h
   unfold uU at h
   rw [if_pos hS] at h
   have h:=sm h
   injection h with _ h
   exact h.symm
theorem Ch {fu:Nat} {ln:Int} {S:fV} (hS:S.e≠0):∀ (l:List jL) (k:Nat) (out:List jL) (r:Ld (List jL × List kD × Int × Int × Int × List kC × List (List jA) × List ky × List Int) (List jL × fV)),ng fu (mG fu) (rF fu) ln l k out S.a.a.a S.f S.c S.e S.a.a.b S.a.c S.a.b S.b=some r→∃ o,r=.go (o,S.a.a.a,S.f,S.c,S.e,S.a.a.b,S.a.c,S.a.b,S.b)
 | [],k,out,r,h=>by
  rw [ng] at h
  exact ⟨out,(sm h).symm⟩
 | x :: l,k,out,r,h=>by
  rw [ng] at h
  obtain ⟨⟨y,S1⟩,h1,h⟩:=bs h
  replace h:=pi h
  rw [OP hS h1] at h
  obtain ⟨q,_,h⟩:=bs h
  exact Ch hS l (k+1) q r h
theorem Ev {fu:Nat} {S S':fV} {x y:List jL} {ln:Int} (hS:S.e≠0) (h:mG fu S x ln=some (y,S')):S'=S:=by
 obtain _ | fu:=fu
 · cases h
 · change uh fu (mG fu) (rF fu) S x ln=_ at h
   unfold uh at h
   obtain ⟨r,h1,h⟩:=bs h
   obtain ⟨o,rfl⟩:=Ch hS _ _ _ _ h1
   have h:=sm h
   injection h with _ h
   exact h.symm
theorem Kz {fu gu:Nat} (ih:VE fu) {fs:List kC} {C:jD} (hc:C.f=C.a.c.length) (hr:∀ r ∈ C.a.a.a,r.b.Nodup):∀ (l:List jL) (k k':Nat) (out:List jL) (r:Ld (List jL × Int × Int × List (ByteArray × Int) × List (ByteArray × Int) × List kD × List kC × List (List jA) × List ky × List Int × List jA × List Int) (List jL × Int × jD)) (r':Ld (List jL × List kD × Int × Int × Int × List kC × List (List jA) × List ky × List Int) (List jL × fV)),
  lm fu (kg fu) (kW fu) l k out C.f C.c C.h C.e C.a.a.a C.a.a.b C.a.c C.a.b C.b C.g C.d=some r→
  ng gu (mG gu) (rF gu) C.c l k' out C.a.a.a C.f 0 0 fs (C.a.c ++ [C.g]) C.a.b C.d=some r'→
  (∃ o,r=.go (o,C.f,C.c,C.h,C.e,C.a.a.a,C.a.a.b,C.a.c,C.a.b,C.b,C.g,C.d)∧r'=.go (o,C.a.a.a,C.f,0,0,fs,C.a.c ++ [C.g],C.a.b,C.d)) ∨ ∃ o e a1 a2 a3 a4 a5 a6 o',r=.out (o,e,C)∧e≠0∧r'=.go (o',a1,a2,C.c,e,a3,a4,a5,a6)
 | [],k,k',out,r,r',h,h'=>by
  rw [lm] at h
  rw [ng] at h'
  exact .inl ⟨out,(sm h).symm,(sm h').symm⟩
 | x :: l,k,k',out,r,r',h,h'=>by
  rw [lm] at h
  rw [ng] at h'
  obtain ⟨⟨y,e,C1⟩,h1,m1⟩:=bs h
  obtain ⟨⟨y',S1⟩,h2,m2⟩:=bs h'
  clear h h'
  have m3:=pi (pi m1)
  have m4:=pi m2
  clear m1 m2
  obtain ⟨e0,q1,q2⟩:=ih gu fs C C1 x y y' e S1 hc hr h1 h2
  rw [e0] at m3 q1 q2
  clear h1 h2
  obtain ⟨w',hw',m5⟩:=bs m4
  clear m4
  rcases kF m3 with ⟨c,m6⟩|⟨c,m6⟩
  · obtain ⟨e1,e2⟩:=q2 c
    obtain ⟨o',rfl⟩:=Ch (S:=S1) (by rw [e1];exact c) _ _ _ _ m5
    refine .inr ⟨_,e,S1.a.a.a,S1.f,S1.a.a.b,S1.a.c,S1.a.b,S1.b,o',(sm m6).symm,c,?_⟩
    rw [e1,e2]
  · obtain ⟨w,hw,m7⟩:=bs m6
    obtain ⟨e3,e4⟩:=q1 (by omega)
    rw [e3,hw] at hw'
    have e5:=sm hw'
    rw [← e5,e4] at m5
    exact Kz ih hc hr l _ _ w r r' m7 m5
theorem Hd:∀ fu:Nat,Vw fu∧VE fu
 | 0=>⟨fun _ _ _ _ _ _ _ _ _ _ _ h=>(by cases h),fun _ _ _ _ _ _ _ _ _ _ _ h=>(by cases h)⟩
 | fu+1=>by
  have ih:=Hd fu
  constructor
  · intro gu fs C C' x y y' e S' hc hr h h'
    obtain _ | gu:=gu
    · cases h'
    change nU fu (kg fu) (kW fu) C x=_ at h
    change uh gu (mG gu) (rF gu) (xq fs C) x C.c=_ at h'
    unfold nU at h
    unfold uh at h'
    obtain ⟨r,h1,h2⟩:=bs h
    obtain ⟨r',h1',h2'⟩:=bs h'
    rcases Kz ih.2 hc hr x 0 0 [] r r' h1 h1' with ⟨o,rfl,rfl⟩|⟨o,e,a1,a2,a3,a4,a5,a6,o',rfl,he,rfl⟩
    · have h3:=sm h2
      injection h3 with q1 h3
      injection h3 with q2 q3
      have h3':=sm h2'
      injection h3' with p1 p2
      subst q1 q2 q3 p1 p2
      exact ⟨rfl,fun _=>⟨rfl,rfl⟩,fun z=>absurd rfl z⟩
    · have h3:=sm h2
      injection h3 with q1 h3
      injection h3 with q2 q3
      have h3':=sm h2'
      injection h3' with p1 p2
      subst q1 q2 q3 p1 p2
      exact ⟨rfl,fun z=>absurd z he,fun _=>⟨rfl,rfl⟩⟩
  · intro gu fs C C' x y y' e S' hc hr h h'
    obtain _ | gu:=gu
    · cases h'
    change om fu (kg fu) (kW fu) C x=_ at h
    change uU gu (mG gu) (rF gu) (xq fs C) x C.c=_ at h'
    unfold om at h
    unfold uU at h'
    rw [if_neg (show ¬ (xq fs C).e≠0 from fun z=>z rfl)] at h'
    obtain ⟨r0,a1,h1⟩:=bs h
    obtain ⟨r0',b1,h1'⟩:=bs h'
    clear h h'
    unfold pE at a1
    unfold wR at b1
    obtain ⟨q1,b2,b3⟩:=bs b1
    clear b1
    unfold wN at b2
    have kinds:(∃ k:Int,r0=.go k∧(k=1 ∨ k=2 ∨ k=3)∧k=x.e∧q1=.go true) ∨ (r0=.go 0∧q1=.go false∧x.e≠2):=by
      by_cases c1:x.e=1
      · rw [if_pos c1] at a1 b2
        exact .inl ⟨1,(sm a1).symm,.inl rfl,c1.symm,by rw [← sm b2,c1];rfl⟩
      · rw [if_neg c1] at a1 b2
        by_cases c2:x.e=2
        · rw [if_pos c2] at a1 b2
          exact .inl ⟨2,(sm a1).symm,.inr (.inl rfl),c2.symm,by rw [← sm b2,c2];rfl⟩
        · rw [if_neg c2] at a1 b2
          by_cases c3:x.e=3
          · rw [if_pos c3] at a1
            exact .inl ⟨3,(sm a1).symm,.inr (.inr rfl),c3.symm,by rw [← sm b2,c3];rfl⟩
          · rw [if_neg c3] at a1
            exact .inr ⟨(sm a1).symm,by rw [← sm b2,decide_eq_false c3],c2⟩
    clear a1 b2
    have tail:∀ (n v:Int),(kg fu C x.b).bind (fun r=>iA r fun v25_0 r=>iA r fun v25_1 v25_2=>some ((⟨x.e,n,v,x.a,x.c,v25_0⟩:jL),v25_1,v25_2))=some (y,e,C')→(mG gu (xq fs C) x.b C.c).bind (fun r=>iA r fun v34_0 v34_1=>some ((⟨x.e,n,v,x.a,x.c,v34_0⟩:jL),v34_1))=some (y',S')→C'=C∧Zr fs y e C' y' S':=fun n v g g'=>by
      obtain ⟨⟨l,e1,C1⟩,g1,g2⟩:=bs g
      obtain ⟨⟨l',S1⟩,g1',g2'⟩:=bs g'
      obtain ⟨hC,z1,z2⟩:=ih.1 gu fs C C1 x.b l l' e1 S1 hc hr g1 g1'
      have g3:=sm (pi (pi g2))
      injection g3 with w1 g3
      injection g3 with w2 w3
      have g3':=sm (pi g2')
      injection g3' with w4 w5
      subst w1 w2 w3 w4 w5
      refine ⟨hC,fun z=>?_,z2⟩
      obtain ⟨rfl,hS⟩:=z1 z
      exact ⟨rfl,hS⟩
    rcases kinds with ⟨k,rfl,hk0,hk,rfl⟩|⟨rfl,rfl,hop⟩
    · replace h1:=gi h1
      obtain ⟨r1,a2,h2⟩:=bs h1
      unfold nX at a2
      rw [if_pos (by omega)] at a2
      replace b3:=gi b3
      rw [if_pos rfl,FW (fu:=fu) hc] at b3
      obtain ⟨⟨v,b⟩,f1,a3⟩:=bs a2
      rw [f1] at b3
      replace a3:=pi a3
      replace b3:=pi (BP b3)
      rcases kF a3 with ⟨c,a4⟩|⟨c,a4⟩
      · rw [if_pos c,Am] at b3
        obtain rfl:=sm a4
        have h3:=sm h2
        injection h3 with w1 h3
        injection h3 with w2 w3
        subst w1 w2 w3
        obtain rfl:=sm (BP b3)
        have h3':=sm h1'
        injection h3' with w4 w5
        subst w5
        exact ⟨rfl,fun z=>absurd z (by decide),fun _=>⟨rfl,rfl⟩⟩
      rw [if_neg c,show (xq fs C).a.c=C.a.c ++ [C.g] from rfl,show (xq fs C).f=C.f from rfl,Ol hc] at b3
      replace b3:=BP b3
      obtain ⟨w,f2,a5⟩:=bs a4
      rw [f2] at b3
      replace b3:=BP b3
      have hkw:wr (wr (1+x.e) - 1)=k:=by
        rw [← hk,lD (n:=1+k) (by omega) (by omega),lD (by omega) (by omega)]
        omega
      rw [hkw] at b3
      rcases kF a5 with ⟨c2,a6⟩|⟨c2,a6⟩
      · rw [if_pos c2,Am] at b3
        obtain rfl:=sm a6
        have h3:=sm h2
        injection h3 with w1 h3
        injection h3 with w2 w3
        subst w1 w2 w3
        obtain rfl:=sm (BP b3)
        have h3':=sm h1'
        injection h3' with w4 w5
        subst w5
        exact ⟨rfl,fun z=>absurd z (by decide),fun _=>⟨rfl,rfl⟩⟩
      rw [if_neg c2] at b3
      obtain rfl:=sm a6
      replace h2:=gi h2
      obtain ⟨r2,a7,h3⟩:=bs h2
      unfold nY at a7
      by_cases c3:x.e=2
      · rw [if_pos c3] at a7 b3
        rw [f2] at a7
        replace a7:=BP a7
        rw [show (xq fs C).a.a.a=C.a.a.a from rfl] at b3
        obtain ⟨rc,f3,a8⟩:=bs a7
        rw [f3] at b3
        replace b3:=BP b3
        have hnd:rc.b.Nodup:=by
          unfold Go.Fw.ix at f3
          rcases kF f3 with ⟨_,f3⟩|⟨_,f3⟩
          · cases f3
          · exact hr rc (List.mem_of_getElem? f3)
        obtain ⟨n,f4,a9⟩:=bs a8
        unfold uH at f4
        rcases MX (fu:=fu) (gu:=gu) (r1:=mG gu) (r2:=rF gu) (x:=x) rc.b 0 (-1) hnd with ⟨g1,g2⟩|⟨j,g1,g2⟩
        · rw [g1] at f4
          rw [g2] at b3
          have en:(-1:Int)=n:=sm f4
          subst en
          replace b3:=gi (BP b3)
          rw [if_pos (by decide),Am] at b3
          rw [if_pos (by decide)] at a9
          obtain rfl:=sm a9
          have h4:=sm h3
          injection h4 with w1 h4
          injection h4 with w2 w3
          subst w1 w2 w3
          obtain rfl:=sm (BP b3)
          replace h1':=gi h1'
          replace h1':=pi (pi (pi (pi (pi (pi (pi (pi (pi h1'))))))))
          obtain ⟨⟨l',S1⟩,g3,h4'⟩:=bs h1'
          have e1:=Ev (S:=⟨⟨⟨C.a.a.a,fs⟩,C.a.c ++ [C.g],C.a.b⟩,C.f,C.d,C.c,8⟩) (by show (8:Int)≠0;decide) g3
          have h5':=sm (pi h4')
          injection h5' with w4 w5
          rw [← w5,e1]
          exact ⟨rfl,fun z=>absurd z (by decide),fun _=>⟨rfl,rfl⟩⟩
        · rw [g1] at f4
          rw [g2] at b3
          have en:(j:Int)=n:=sm f4
          subst en
          replace b3:=gi (BP b3)
          rw [if_neg (by omega)] at b3
          rw [if_neg (by omega)] at a9
          obtain rfl:=sm a9
          obtain rfl:=sm b3
          replace h3:=gi h3
          exact tail j v h3 h1'
      · rw [if_neg c3] at a7 b3
        obtain rfl:=sm a7
        obtain rfl:=sm b3
        replace h3:=gi h3
        exact tail x.d v h3 h1'
    · replace h1:=gi h1
      obtain ⟨r1,a2,h2⟩:=bs h1
      unfold nX at a2
      rw [if_neg (by simp)] at a2
      obtain rfl:=sm a2
      replace h2:=gi h2
      obtain ⟨r2,a3,h3⟩:=bs h2
      unfold nY at a3
      rw [if_neg hop] at a3
      obtain rfl:=sm a3
      replace b3:=gi b3
      rw [if_neg (by decide)] at b3
      obtain rfl:=sm b3
      replace h3:=gi h3
      exact tail x.d x.j h3 h1'
end Go.Proofs.Ytfglbdkfnphjgaa
set_option linter.unusedVariables false
set_option linter.unusedSimpArgs false
namespace Go.Proofs.Ytfglbdkfnphjgaa
open Go.RowKit Go.Fw
structure He (fs:List kC) (C:jD):Prop where
 hc:C.f=C.a.c.length
 hr:∀ r ∈ C.a.a.a,r.b.Nodup
 rc:∀ fu n,oD fu n C.a.a.a 0=some (match qa C.h n with | some i=>.out (i,true)|none=>.go ())
 fn:∀ fu n,pU fu n fs 0=some (match qa C.e n with | some i=>.out (i,true)|none=>.go ())
 pa:∀ (i:Int) (f:kC) (p:Int),ix fs i=some f→ix C.b i=some p→p=f.b.length
theorem He.cs {fs:List kC} {C C':jD} (h:He fs C) (k:CS C C'):He fs C':=⟨by rw [k.cu,k.vs];exact h.hc,by rw [k.pg];exact h.hr,by rw [k.pg,k.rc];exact h.rc,by rw [k.fc];exact h.fn,by rw [k.pa];exact h.pa⟩
theorem TK {fu gu:Nat} {r1:fV→List jM→Option (List jM × fV)} {r2:fV→jM→Option (jM × fV)} {C:jD} {Vs:List (List jA)}:∀ (l:List Int) (k k':Nat) (V:List jA) (r:Ld (List jA) jD) (r':Ld (List (List jA)) (List jM × fV)),kJ fu C l k V=some r→lI gu r1 r2 (Vs.length:Int) C.a.b l k' (Vs ++ [V])=some r'→∃ W,r=.go W∧r'=.go (Vs ++ [W])
 | [],k,k',V,r,r',h,h'=>by
  rw [kJ] at h
  rw [lI] at h'
  exact ⟨V,(sm h).symm,(sm h').symm⟩
 | u :: l,k,k',V,r,r',h,h'=>by
  rw [kJ] at h
  rw [lI] at h'
  obtain ⟨x,h1,h2⟩:=bs h
  obtain ⟨W,h3,h4⟩:=bs h2
  obtain ⟨V',h1',h2'⟩:=bs h'
  have e0:ix (Vs ++ [V]) (Vs.length:Int)=some V:=by
   unfold Go.Fw.ix
   rw [if_neg (by omega),Int.toNat_natCast,List.getElem?_append_right (Nat.le_refl _),Nat.sub_self]
   rfl
  rw [e0] at h1'
  have e1:=sm h1'
  rw [← e1] at h2'
  rw [h1] at h2'
  replace h2':=BP h2'
  obtain ⟨W',h3',h4'⟩:=bs h2'
  rw [h3] at h3'
  have e2:=sm h3'
  rw [← e2] at h4'
  obtain ⟨Q,h5,h6⟩:=bs h4'
  have e3:Q=Vs ++ [W]:=by
   unfold Go.Fw.st at h5
   rcases kF h5 with ⟨_,h5⟩|⟨_,h5⟩
   · have h5:=sm h5
     rw [Int.toNat_natCast,List.set_append_right _ _ (Nat.le_refl _),Nat.sub_self] at h5
     exact h5.symm
   · cases h5
  rw [e3] at h6
  exact TK l (k+1) (k'+1) W r r' h4 h6
theorem MH {fu:Nat} {r1:fV→List jM→Option (List jM × fV)} {r2:fV→jM→Option (jM × fV)} {f:Int} {K:List ky}:∀ (l:List Int) (k:Nat) (V:List (List jA)) (p:List jM × fV),lI fu r1 r2 f K l k V=some (.out p)→False
 | [],k,V,p,h=>by rw [lI] at h;cases h
 | u :: l,k,V,p,h=>by
  rw [lI] at h
  obtain ⟨_,_,h⟩:=bs h
  obtain ⟨_,_,h⟩:=bs h
  obtain ⟨_,_,h⟩:=bs h
  obtain ⟨_,_,h⟩:=bs h
  exact MH l (k+1) _ p h
theorem EM {fu:Nat} {S S':fV} {l o:List jM} (hS:S.e≠0) (h:kR fu S l=some (o,S')):Tg S S':=by
 obtain _ | fu:=fu
 · cases h
 change pz fu (kR fu) (qc fu) S l=_ at h
 unfold pz at h
 obtain ⟨r,h1,h2⟩:=bs h
 have e0:∃ o,r=.go (o,S.a.a.a,S.f,S.c,S.e,S.a.a.b,S.a.c,S.a.b,S.b):=by
   cases l with
   | nil=>rw [mq] at h1;exact ⟨_,(sm h1).symm⟩
   | cons x l=>
    rw [mq,if_pos hS] at h1
    exact ⟨_,(sm h1).symm⟩
 obtain ⟨o1,rfl⟩:=e0
 replace h2:=gi h2
 replace h2:=pi (pi (pi (pi (pi (pi (pi (pi h2)))))))
 obtain ⟨q,_,h3⟩:=bs h2
 obtain ⟨r2,h4,h5⟩:=bs h3
 cases r2 with
 | out p=>
   exfalso
   exact MH _ _ _ _ h4
 | go V=>
   replace h5:=gi h5
   obtain ⟨q2,_,h6⟩:=bs h5
   obtain ⟨q3,_,h7⟩:=bs h6
   have h8:=sm h7
   injection h8 with _ h8
   subst h8
   exact ⟨rfl,rfl⟩
def Vm (fu:Nat):Prop:=∀ (gu:Nat) (F:Int) (fs:List kC) (n:Nat) (C:jD) (l:List jM) (k k':Nat) (out:List jM) (r:Ld (List jM × Int × Int × List (ByteArray × Int) × List (ByteArray × Int) × List kD × List kC × List (List jA) × List ky × List Int × List jA × List Int) (List jM × Int × jD)) (r':Ld (List jM × List kD × Int × Int × Int × List kC × List (List jA) × List ky × List Int) (List jM × fV)),CI F C→F≤C.a.b.length→He fs C→(∀ y ∈ l,CJ 5000 n y)→4 * n+10004≤fu→
 nC fu (kY fu) (kw fu) (kV fu) (kU fu) l k out C.f C.c C.h C.e C.a.a.a C.a.a.b C.a.c C.a.b C.b C.g C.d=some r→
 mq gu (kR gu) (qc gu) l k' out C.a.a.a C.f 0 0 fs (C.a.c ++ [C.g]) C.a.b C.d=some r'→
 (∃ o C',r=.go (o,C'.f,C'.c,C'.h,C'.e,C'.a.a.a,C'.a.a.b,C'.a.c,C'.a.b,C'.b,C'.g,C'.d)∧r'=.go (o,C'.a.a.a,C'.f,0,0,fs,C'.a.c ++ [C'.g],C'.a.b,C'.d)∧CS C C') ∨ ∃ o e C' a1 a2 a3 a4 a5 a6 o',r=.out (o,e,C')∧e≠0∧r'=.go (o',a1,a2,C'.c,e,a3,a4,a5,a6)
def TM (fu:Nat):Prop:=∀ (gu:Nat) (F:Int) (fs:List kC) (n:Nat) (C C':jD) (x y y':jM) (e:Int) (S':fV),CI F C→F≤C.a.b.length→He fs C→CJ 5000 n x→4 * n+10004≤fu→kw fu C x=some (y,e,C')→qc gu (xq fs C) x=some (y',S')→Zr fs y e C' y' S'
def Vf (fu:Nat):Prop:=∀ (gu:Nat) (F:Int) (fs:List kC) (n:Nat) (C C':jD) (l o o':List jM) (e:Int) (S':fV),CI F C→F≤C.a.b.length→He fs C→l.length≤5000→(∀ y ∈ l,CJ 5000 n y)→4 * n+10006≤fu→kU fu C l=some (o,e,C')→kR gu (xq fs C) l=some (o',S')→Zr fs o e C' o' S'
theorem D5 {α:Type} {x:Option α} {v:α} {P:α→Prop} (h:kI x P) (k:x=some v):P v:=by
 obtain ⟨w,h1,h2⟩:=h
 rw [k] at h1
 cases h1
 exact h2
theorem LX {fu:Nat} (ih:TM fu):Vm fu:=by
 intro gu F fs n C l
 induction l generalizing C with
 | nil=>
  intro k k' out r r' hC hF hE _ _ h h'
  rw [nC] at h
  rw [mq] at h'
  exact .inl ⟨out,C,(sm h).symm,(sm h').symm,.rfl'⟩
 | cons x l ihl=>
  intro k k' out r r' hC hF hE hl hf h h'
  rw [nC] at h
  rw [mq,if_neg (by simp)] at h'
  obtain ⟨⟨y,e,C1⟩,h1,m1⟩:=bs h
  obtain ⟨⟨y',S1⟩,h2,m2⟩:=bs h'
  clear h h'
  have m3:=pi (pi m1)
  have m4:=pi m2
  clear m1 m2
  have hx:=hl x (List.mem_cons_self ..)
  obtain ⟨q1,q2⟩:=ih gu F fs n C C1 x y y' e S1 hC hF hE hx hf h1 h2
  have hL':=D5 ((zy fu).2.1 F C x n hC hF hx hf) h1
  have hL:LP F C [y] e C1:=hL'
  obtain ⟨w',hw',m5⟩:=bs m4
  clear m4 h1 h2
  rcases kF m3 with ⟨c,m6⟩|⟨c,m6⟩
  · obtain ⟨e1,e2⟩:=q2 c
    have:∃ o',r'=.go (o',S1.a.a.a,S1.f,S1.c,S1.e,S1.a.a.b,S1.a.c,S1.a.b,S1.b):=by
      cases l with
      | nil=>rw [mq] at m5;exact ⟨_,(sm m5).symm⟩
      | cons z l=>
       rw [mq,if_pos (by rw [e1];exact c)] at m5
       exact ⟨_,(sm m5).symm⟩
    obtain ⟨o',rfl⟩:=this
    refine .inr ⟨_,e,C1,S1.a.a.a,S1.f,S1.a.a.b,S1.a.c,S1.a.b,S1.b,o',(sm m6).symm,c,?_⟩
    rw [e1,e2]
  · obtain ⟨w,hw,m7⟩:=bs m6
    obtain ⟨e3,e4⟩:=q1 (by omega)
    rw [e3,hw] at hw'
    have e5:=sm hw'
    rw [← e5,e4] at m5
    have hle:=hL.2.1.len
    rcases ihl C1 (k+1) (k'+1) w r r' hL.1 (by omega) (hE.cs hL.2.1) (fun y hy=>hl y (List.mem_cons_of_mem _ hy)) hf m7 m5 with ⟨o,C',g1,g2,g3⟩ | g
    · exact .inl ⟨o,C',g1,g2,hL.2.1.trans g3⟩
    · exact .inr g
end Go.Proofs.Ytfglbdkfnphjgaa
set_option linter.unusedVariables false
set_option linter.unusedSimpArgs false
namespace Go.Proofs.Ytfglbdkfnphjgaa
open Go.RowKit Go.Fw
theorem EI {fu:Nat} {C:jD}:∀ (l:List Int) (k:Nat) (V:List jA) (o:jD),kJ fu C l k V=some (.out o)→False
 | [],k,V,o,h=>by rw [kJ] at h;cases h
 | u :: l,k,V,o,h=>by
  rw [kJ] at h
  obtain ⟨_,_,h⟩:=bs h
  obtain ⟨_,_,h⟩:=bs h
  exact EI l (k+1) _ o h
theorem Qg {fu:Nat} (ih:Vm fu):Vf (fu+2):=by
 intro gu F fs n C C' l o o' e S' hC hF hE hl he hf h h'
 obtain _ | gu:=gu
 · cases h'
 change rz (fu+1) (kY (fu+1)) (kw (fu+1)) (kV (fu+1)) (kU (fu+1)) C l=_ at h
 change pz gu (kR gu) (qc gu) (xq fs C) l=_ at h'
 unfold rz at h
 unfold pz at h'
 obtain ⟨⟨o1,e1,C1⟩,h1,h2⟩:=bs h
 replace h2:=pi (pi h2)
 obtain ⟨C2,h3,h4⟩:=bs h2
 clear h h2
 have h5:=sm h4
 injection h5 with w1 h5
 injection h5 with w2 w3
 subst w1 w2 w3
 clear h4
 have hLP:=D5 ((zy (fu+1)).1 F C l n hC hF (by omega) he (by omega)) h1
 change p8 fu (kY fu) (kw fu) (kV fu) (kU fu) C l=_ at h1
 unfold p8 at h1
 obtain ⟨r,a1,a2⟩:=bs h1
 obtain ⟨r',b1,b2⟩:=bs h'
 clear h1 h'
 unfold lC at h3
 obtain ⟨q1,c1,c2⟩:=bs h3
 obtain ⟨rV,c3,c4⟩:=bs c2
 rcases ih gu F fs n C l 0 0 [] r r' hC hF hE he (by omega) a1 b1 with ⟨p,D,rfl,rfl,hcs⟩|⟨p,e2,D,x1,x2,x3,x4,x5,x6,p',rfl,hne,rfl⟩
 · have a3:=sm a2
   injection a3 with w1 a3
   injection a3 with w2 w3
   subst w1 w2 w3
   replace b2:=gi b2
   replace b2:=pi (pi (pi (pi (pi (pi (pi (pi b2)))))))
   obtain ⟨q2,d1,d2⟩:=bs b2
   obtain ⟨rW,d3,d4⟩:=bs d2
   have e3:q2=q1:=by
    have:some q2=some q1:=by rw [← d1,← c1];rfl
    exact sm this
   rw [e3] at d3
   have hcur:=(hE.cs hcs).hc
   rw [hcur] at d3
   obtain ⟨W,w4,w5⟩:=TK q1 0 0 D.g rV rW c3 d3
   subst w4 w5
   replace c4:=gi c4
   obtain ⟨q3,c5,c6⟩:=bs c4
   replace d4:=gi d4
   obtain ⟨q4,d5,d6⟩:=bs d4
   obtain ⟨q5,d7,d8⟩:=bs d6
   have e4:q4=q3:=by
    have:some q4=some q3:=by rw [← d5,← c5];rfl
    exact sm this
   have e5:q5=q3:=by rw [← (pK d7).2,List.nil_append,e4]
   have d9:=sm d8
   injection d9 with w6 w7
   have c7:=sm c6
   refine ⟨fun _=>⟨w6.symm,?_⟩,fun z=>absurd rfl z⟩
   rw [← w7,← c7,e5]
   rfl
 · have a3:=sm a2
   injection a3 with w1 a3
   injection a3 with w2 w3
   subst w1 w2 w3
   replace b2:=gi b2
   replace b2:=pi (pi (pi (pi (pi (pi (pi (pi b2)))))))
   obtain ⟨q2,d1,d2⟩:=bs b2
   obtain ⟨rW,d3,d4⟩:=bs d2
   have hl:C2.c=D.c:=by
    cases rV with
    | out o=>exact (EI _ _ _ _ c3).elim
    | go V=>
     replace c4:=gi c4
     obtain ⟨q3,c5,c6⟩:=bs c4
     rw [← sm c6]
   cases rW with
   | out o=>exact (MH _ _ _ _ d3).elim
   | go V=>
    replace d4:=gi d4
    obtain ⟨q4,d5,d6⟩:=bs d4
    obtain ⟨q5,d7,d8⟩:=bs d6
    have d9:=sm d8
    injection d9 with w6 w7
    exact ⟨fun z=>absurd z hne,fun _=>⟨by rw [← w7],by rw [← w7,hl]⟩⟩
theorem OH {gu:Nat} {fs:List kC} {C:jD} (hE:He fs C) {n:ByteArray}:qE gu (xq fs C) n=some (match qa C.h n with | some i=>(i,true)|none=>(0,false)):=by
 unfold qE
 rw [show (xq fs C).a.a.a=C.a.a.a from rfl,hE.rc]
 cases qa C.h n <;> rfl
theorem R3 {gu:Nat} {fs:List kC} {C:jD} (hE:He fs C) {n:ByteArray}:xh gu (xq fs C).a n=some (match qa C.e n with | some i=>(i,true)|none=>(0,false)):=by
 unfold xh
 rw [show (xq fs C).a.a.b=fs from rfl,hE.fn]
 cases qa C.e n <;> rfl
theorem Mf {fu gu:Nat} {r1:fV→List jM→Option (List jM × fV)} {r2:fV→jM→Option (jM × fV)} {fs:List kC} {C C':jD} {x:jM} {K:List ky} (hE:He fs C) (ht:0 < x.m→x.g=be) {v e:Int} (h:oZ fu ⟨C.h,C.e,⟨C.a.a,C.a.c,K⟩,C.b,C.g,C.d,C.f,x.c⟩ ⟨x.e,x.c,(C.a.b.length:Int),x.a,x.g,x.m,x.j,[],x.k,x.h,[],[],[]⟩=some (v,e,C')) (hK:(K.length:Int)=wr ((C.a.b.length:Int)+1)) {q:Ld (List kD × Int × Int × Int × List kC × List (List jA) × List ky × List Int) (jM × fV)} (hx:x.e=1) (k:uE gu r1 r2 (xq fs C) x K=some q) :
   ∃ S' v',q=.out (⟨x.e,x.c,(C.a.b.length:Int),x.a,x.g,x.m,v',x.d,x.k,x.h,x.b,x.f,x.i⟩,S')∧Zr fs v e C' v' S':=by
 unfold oZ at h
 unfold uE at k
 rw [if_pos hx] at k
 obtain ⟨r,h1,h2⟩:=bs h
 obtain ⟨r',k1,k2⟩:=bs k
 clear h k
 unfold qp at h1
 unfold wQ at k1
 have go:∀ (a b c:Int),r=.go (a,b,c)→r'=.go (a,b,c)→∃ S' v',q=.out (⟨x.e,x.c,(C.a.b.length:Int),x.a,x.g,x.m,v',x.d,x.k,x.h,x.b,x.f,x.i⟩,S')∧Zr fs v e C' v' S':=fun a b c e1 e2=>by
   rw [e1] at h2
   rw [e2] at k2
   replace h2:=gi h2
   replace h2:=pi (pi h2)
   replace k2:=gi k2
   replace k2:=pi (pi k2)
   obtain ⟨⟨v1,e1,C1⟩,h3,h4⟩:=bs h2
   obtain ⟨⟨v2,S2⟩,k3,k4⟩:=bs k2
   have h5:=sm (pi (pi h4))
   injection h5 with w1 h5
   injection h5 with w2 w3
   subst w1 w2 w3
   refine ⟨S2,v2,(sm (pi k4)).symm,?_⟩
   rw [show (xq fs C).a.b=C.a.b from rfl,← hK] at k3
   exact IM (fs:=fs) (C:=⟨C.h,C.e,⟨C.a.a,C.a.c,K⟩,C.b,C.g,C.d,C.f,x.c⟩) hE.hc h3 k3
 dsimp only at h1 k1
 by_cases c:x.g=(⟨#[]⟩:ByteArray)
 · rw [if_neg (fun z=>z c)] at h1
   by_cases d:0 < x.m
   · rw [if_pos d] at h1 k1
     exact go _ _ _ (sm h1).symm (sm k1).symm
   · rw [if_neg d] at h1 k1
     rw [if_neg (fun z=>z c)] at k1
     exact go _ _ _ (sm h1).symm (sm k1).symm
 · have d:¬ 0 < x.m:=fun z=>c (ht z)
   rw [if_pos c] at h1
   rw [if_neg d,if_pos c] at k1
   have hrec:=OH (gu:=gu) hE (n:=x.g)
   change (qE gu (xq fs ⟨C.h,C.e,⟨C.a.a,C.a.c,K⟩,C.b,C.g,C.d,C.f,x.c⟩) x.g).bind _=_ at k1
   rw [show qE gu (xq fs ⟨C.h,C.e,⟨C.a.a,C.a.c,K⟩,C.b,C.g,C.d,C.f,x.c⟩) x.g=qE gu (xq fs C) x.g from rfl,hrec] at k1
   cases hm:qa C.h x.g with
   | none=>
     rw [hm] at h1 k1
     rw [if_pos (by rfl)] at h1
     replace k1:=pi (BP k1)
     rw [if_pos (by rfl)] at k1
     change (lh gu (xq fs ⟨C.h,C.e,⟨C.a.a,C.a.c,K⟩,C.b,C.g,C.d,C.f,x.c⟩) x.c 8).bind _=_ at k1
     rw [Am] at k1
     have e1:=sm h1
     rw [← e1] at h2
     have h5:=sm h2
     injection h5 with w1 h5
     injection h5 with w2 w3
     subst w1 w2 w3
     have e2:=sm (BP k1)
     rw [← e2] at k2
     exact ⟨_,x.j,(sm k2).symm,fun z=>absurd z (by decide),fun _=>⟨rfl,rfl⟩⟩
   | some i=>
     rw [hm] at h1 k1
     rw [if_neg (by simp)] at h1
     replace k1:=pi (BP k1)
     rw [if_neg (by decide)] at k1
     obtain ⟨rc,h3,h4⟩:=bs h1
     change (ix C.a.a.a i).bind _=_ at k1
     change ix C.a.a.a i=_ at h3
     rw [h3] at k1
     exact go _ _ _ (sm h4).symm (sm (BP k1)).symm
end Go.Proofs.Ytfglbdkfnphjgaa
set_option linter.unusedVariables false
set_option linter.unusedSimpArgs false
namespace Go.Proofs.Ytfglbdkfnphjgaa
open Go.RowKit Go.Fw
theorem EW {gu:Nat} {S S':fV} {o:List jM} (h:kR gu S []=some (o,S')):o=[]∧S'=S:=by
 obtain _ | gu:=gu
 · cases h
 change pz gu (kR gu) (qc gu) S []=_ at h
 unfold pz at h
 obtain ⟨r,h1,h2⟩:=bs h
 rw [mq] at h1
 obtain rfl:=sm h1
 replace h2:=gi h2
 replace h2:=pi (pi (pi (pi (pi (pi (pi (pi h2)))))))
 obtain ⟨q1,a1,h3⟩:=bs h2
 obtain ⟨rW,a2,h4⟩:=bs h3
 have e1:q1=[]:=by
   unfold Go.Fw.sl at a1
   rcases kF a1 with ⟨_,a1⟩|⟨_,a1⟩
   · rw [← sm a1]
     simp
   · cases a1
 rw [e1,lI] at a2
 obtain rfl:=sm a2
 replace h4:=gi h4
 obtain ⟨q2,a3,h5⟩:=bs h4
 obtain ⟨q3,a4,h6⟩:=bs h5
 have e2:q2=S.b:=by
   unfold Go.Fw.sl at a3
   rcases kF a3 with ⟨_,a3⟩|⟨_,a3⟩
   · rw [← sm a3]
     simp
   · cases a3
 have e3:q3=S.b:=by rw [← (pK a4).2,List.nil_append,e2]
 have h7:=sm h6
 injection h7 with w1 w2
 rw [e3] at w2
 exact ⟨w1.symm,w2.symm⟩
structure PQ (gu:Nat) (x:jM) (id:Int) (S0:fV) (y':jM) (S':fV):Prop where
 ex:∃ (tg:List jL) (S1 S2:fV) (ca:Int) (ar:List jL) (S3:fV) (bo:List jM) (S4:fV),mG gu S0 x.d x.c=some (tg,S1)∧
  ((x.k=(⟨#[]⟩:ByteArray)∧S2=S1∧ca=x.h) ∨ (x.k≠(⟨#[]⟩:ByteArray)∧oV gu S1 ⟨x.e,x.c,id,x.a,x.g,x.m,x.j,tg,x.k,x.h,x.b,x.f,x.i⟩=some (S2,⟨x.e,x.c,id,x.a,x.g,x.m,x.j,tg,x.k,ca,x.b,x.f,x.i⟩)))∧
  mG gu S2 x.b x.c=some (ar,S3)∧kR gu S3 x.f=some (bo,S4)∧
  ((∃ r1 r2,mW gu r1 r2 x.e x.c id x.a x.g x.m tg x.k ca x.i ar bo S4=some (.out (y',S'))∧r1=kR gu) ∨ ((x.e≠8 ∨ S4.e≠0)∧∃ el,kR gu S4 x.i=some (el,S')∧y'=⟨x.e,x.c,id,x.a,x.g,x.m,x.j,tg,x.k,ca,ar,bo,el⟩))
theorem Ms {gu:Nat} {S S':fV} {x y:jM} (h:oV gu S x=some (S',y)):∃ ca,y=⟨x.e,x.c,x.n,x.a,x.g,x.m,x.j,x.d,x.k,ca,x.b,x.f,x.i⟩:=by
 unfold oV at h
 rcases kF h with ⟨_,h⟩|⟨_,h⟩
 · have h:=sm h
   injection h with _ h
   exact ⟨x.h,by rw [← h];cases x;rfl⟩
 obtain ⟨⟨n,b⟩,_,h⟩:=bs h
 replace h:=pi h
 rcases kF h with ⟨_,h⟩|⟨_,h⟩
 · obtain ⟨_,_,h⟩:=bs h
   have h:=sm h
   injection h with _ h
   exact ⟨n,h.symm⟩
 obtain ⟨_,_,h⟩:=bs h
 rcases kF h with ⟨_,h⟩|⟨_,h⟩
 · obtain ⟨_,_,h⟩:=bs h
   have h:=sm h
   injection h with _ h
   exact ⟨n,h.symm⟩
 · have h:=sm h
   injection h with _ h
   exact ⟨n,h.symm⟩
theorem Uh {gu:Nat} {r1:fV→List jM→Option (List jM × fV)} {r2:fV→jM→Option (jM × fV)} {a b c d:Int} {n t f:ByteArray} {len:Int} {tg:List jL} {el:List jM} {ar:List jL} {bo:List jM} {S:fV} (h:mW gu r1 r2 a b c n t len tg f d el ar bo S=some (.go ())):a≠8 ∨ S.e≠0:=by
 unfold mW at h
 by_cases h1:a=8
 · rw [if_pos h1] at h
   by_cases h2:S.e=0
   · rw [if_pos h2] at h
     obtain ⟨_,_,h⟩:=bs h
     obtain ⟨⟨_,_⟩,_,h⟩:=bs h
     obtain ⟨⟨_,_⟩,_,h⟩:=bs (pi h)
     obtain ⟨r,_,h⟩:=bs (pi h)
     cases r with
     | go V=>cases h
     | out o=>cases h
   · exact .inr h2
 · exact .inl h1
theorem UH {gu:Nat} {fs:List kC} {C:jD} {x y':jM} {S':fV} (hk:x.e≠1) (hl:¬ (200:Int)≤(C.a.b.length:Int)) {K:List ky} (hK:app C.a.b [(⟨C.f,x.e,x.c⟩:ky)]=some K) (h:qc (gu+1) (xq fs C) x=some (y',S')) :
  ∃ S0:fV,(S0=xq fs ⟨C.h,C.e,⟨C.a.a,C.a.c,K⟩,C.b,C.g,C.d,C.f,x.c⟩∧¬ (x.e=3∧∃ t,x.d[0]?=some t∧t.e≠1) ∨ (x.e=3∧∃ t,x.d[0]?=some t∧t.e≠1)∧S0.e=10∧S0.c=x.c)∧PQ gu x (C.a.b.length:Int) S0 y' S':=by
 change sV gu (kR gu) (qc gu) (xq fs C) x=_ at h
 unfold sV at h
 rw [show (xq fs C).a.b=C.a.b from rfl,if_neg hl,show (xq fs C).f=C.f from rfl,hK] at h
 replace h:=BP h
 obtain ⟨q0,h0,h1⟩:=bs h
 unfold uE at h0
 rw [if_neg hk] at h0
 have hq:∃ S0:fV,q0=.go (S0.a.a.a,S0.f,S0.c,S0.e,S0.a.a.b,S0.a.c,S0.a.b,S0.b)∧(S0=xq fs ⟨C.h,C.e,⟨C.a.a,C.a.c,K⟩,C.b,C.g,C.d,C.f,x.c⟩∧¬ (x.e=3∧∃ t,x.d[0]?=some t∧t.e≠1) ∨ (x.e=3∧∃ t,x.d[0]?=some t∧t.e≠1)∧S0.e=10∧S0.c=x.c):=by
  rcases kF h0 with ⟨c3,h0⟩|⟨c3,h0⟩
  · rcases kF h0 with ⟨c0,h0⟩|⟨c0,h0⟩
    · obtain ⟨t,ht,h0⟩:=bs h0
      have ht0:x.d[0]?=some t:=by
        unfold Go.Fw.ix at ht
        rw [if_neg (by decide)] at ht
        exact ht
      rcases kF h0 with ⟨c1,h0⟩|⟨c1,h0⟩
      · change (lh gu (xq fs ⟨C.h,C.e,⟨C.a.a,C.a.c,K⟩,C.b,C.g,C.d,C.f,x.c⟩) x.c 10).bind _=_ at h0
        rw [Am] at h0
        exact ⟨_,(sm (BP h0)).symm,.inr ⟨⟨c3,t,ht0,c1⟩,rfl,rfl⟩⟩
      · exact ⟨_,(sm h0).symm,.inl ⟨rfl,fun z=>by
         obtain ⟨_,t',h1,h2⟩:=z
         rw [ht0] at h1
         cases h1
         exact c1 h2⟩⟩
    · exact ⟨xq fs ⟨C.h,C.e,⟨C.a.a,C.a.c,K⟩,C.b,C.g,C.d,C.f,x.c⟩,(sm h0).symm,.inl ⟨rfl,fun z=>by
        obtain ⟨_,t',h1,h2⟩:=z
        have:=kE h1
        omega⟩⟩
  · exact ⟨xq fs ⟨C.h,C.e,⟨C.a.a,C.a.c,K⟩,C.b,C.g,C.d,C.f,x.c⟩,(sm h0).symm,.inl ⟨rfl,fun z=>c3 z.1⟩⟩
 obtain ⟨S0,e0,hS0⟩:=hq
 rw [e0] at h1
 replace h1:=gi h1
 replace h1:=pi (pi (pi (pi (pi (pi (pi h1))))))
 refine ⟨S0,hS0,?_⟩
 clear h0 e0 hS0 h
 obtain ⟨⟨tg,S1⟩,a1,h2⟩:=bs h1
 replace h2:=pi h2
 obtain ⟨q1,a2,h3⟩:=bs h2
 clear h1 h2
 unfold wP at a2
 have hq1:∃ (S2:fV) (ca:Int),q1=.go (S2.a.a.a,S2.f,S2.c,S2.e,S2.a.a.b,S2.a.c,S2.a.b,S2.b,x.e,x.c,(C.a.b.length:Int),x.a,x.g,x.m,x.j,tg,x.k,ca,x.b,x.f,x.i)∧((x.k=(⟨#[]⟩:ByteArray)∧S2=S1∧ca=x.h) ∨ (x.k≠(⟨#[]⟩:ByteArray)∧oV gu S1 ⟨x.e,x.c,(C.a.b.length:Int),x.a,x.g,x.m,x.j,tg,x.k,x.h,x.b,x.f,x.i⟩=some (S2,⟨x.e,x.c,(C.a.b.length:Int),x.a,x.g,x.m,x.j,tg,x.k,ca,x.b,x.f,x.i⟩))):=by
  rcases kF a2 with ⟨c,a2⟩|⟨c,a2⟩
  · obtain ⟨⟨S2,z⟩,b1,b2⟩:=bs a2
    obtain ⟨ca,rfl⟩:=Ms b1
    exact ⟨S2,ca,(sm (pi b2)).symm,.inr ⟨c,b1⟩⟩
  · exact ⟨S1,x.h,(sm a2).symm,.inl ⟨Decidable.not_not.1 c,rfl,rfl⟩⟩
 obtain ⟨S2,ca,e1,hS2⟩:=hq1
 rw [e1] at h3
 replace h3:=gi h3
 replace h3:=pi (pi (pi (pi (pi (pi (pi (pi (pi (pi (pi (pi (pi (pi (pi (pi (pi (pi (pi (pi h3)))))))))))))))))))
 clear a2 e1
 obtain ⟨⟨ar,S3⟩,a3,h4⟩:=bs h3
 replace h4:=pi h4
 obtain ⟨⟨bo,S4⟩,a4,h5⟩:=bs h4
 replace h5:=pi h5
 obtain ⟨q2,a5,h6⟩:=bs h5
 refine ⟨⟨tg,S1,S2,ca,ar,S3,bo,S4,a1,hS2,a3,a4,?_⟩⟩
 cases q2 with
 | out o=>
  have h7:=sm (show some o=some (y',S') from h6)
  rw [h7] at a5
  exact .inl ⟨_,_,a5,rfl⟩
 | go u=>
  replace h6:=gi h6
  obtain ⟨⟨el,S5⟩,a6,h7⟩:=bs h6
  have h8:=sm (pi h7)
  injection h8 with w1 w2
  subst w2
  exact .inr ⟨Uh a5,el,a6,w1.symm⟩
end Go.Proofs.Ytfglbdkfnphjgaa
set_option linter.unusedVariables false
set_option linter.unusedSimpArgs false
namespace Go.Proofs.Ytfglbdkfnphjgaa
open Go.RowKit Go.Fw
section
variable {gu:Nat} {x y':jM} {id ca:Int} {S1 S2 S3 S4 S':fV} {tg ar:List jL} {bo:List jM}
theorem QR (h:(∃ r1 r2,mW gu r1 r2 x.e x.c id x.a x.g x.m tg x.k ca x.i ar bo S4=some (.out (y',S'))∧r1=kR gu) ∨ ((x.e≠8 ∨ S4.e≠0)∧∃ el,kR gu S4 x.i=some (el,S')∧y'=⟨x.e,x.c,id,x.a,x.g,x.m,x.j,tg,x.k,ca,ar,bo,el⟩)) (hS:S4.e≠0):Tg S4 S':=by
 rcases h with ⟨r1,r2,h,_⟩|⟨_,el,h,_⟩
 · exfalso
   unfold mW at h
   rcases kF h with ⟨_,h⟩|⟨_,h⟩
   · rw [if_neg hS] at h
     cases h
   · cases h
 · exact EM hS h
theorem Pd (h4:kR gu S3 x.f=some (bo,S4)) (h:(∃ r1 r2,mW gu r1 r2 x.e x.c id x.a x.g x.m tg x.k ca x.i ar bo S4=some (.out (y',S'))∧r1=kR gu) ∨ ((x.e≠8 ∨ S4.e≠0)∧∃ el,kR gu S4 x.i=some (el,S')∧y'=⟨x.e,x.c,id,x.a,x.g,x.m,x.j,tg,x.k,ca,ar,bo,el⟩)) (hS:S3.e≠0):Tg S3 S':=by
 have a:=EM hS h4
 have b:=QR h (by rw [a.1];exact hS)
 exact ⟨b.1.trans a.1,b.2.trans a.2⟩
theorem Ox (h3:mG gu S2 x.b x.c=some (ar,S3)) (h4:kR gu S3 x.f=some (bo,S4)) (h:(∃ r1 r2,mW gu r1 r2 x.e x.c id x.a x.g x.m tg x.k ca x.i ar bo S4=some (.out (y',S'))∧r1=kR gu) ∨ ((x.e≠8 ∨ S4.e≠0)∧∃ el,kR gu S4 x.i=some (el,S')∧y'=⟨x.e,x.c,id,x.a,x.g,x.m,x.j,tg,x.k,ca,ar,bo,el⟩)) (hS:S2.e≠0):Tg S2 S':=by
 have a:=Ev hS h3
 rw [a] at h4
 exact Pd h4 h hS
theorem Ob (h2:(x.k=(⟨#[]⟩:ByteArray)∧S2=S1∧ca=x.h) ∨ (x.k≠(⟨#[]⟩:ByteArray)∧oV gu S1 ⟨x.e,x.c,id,x.a,x.g,x.m,x.j,tg,x.k,x.h,x.b,x.f,x.i⟩=some (S2,⟨x.e,x.c,id,x.a,x.g,x.m,x.j,tg,x.k,ca,x.b,x.f,x.i⟩))) (h3:mG gu S2 x.b x.c=some (ar,S3)) (h4:kR gu S3 x.f=some (bo,S4)) (h:(∃ r1 r2,mW gu r1 r2 x.e x.c id x.a x.g x.m tg x.k ca x.i ar bo S4=some (.out (y',S'))∧r1=kR gu) ∨ ((x.e≠8 ∨ S4.e≠0)∧∃ el,kR gu S4 x.i=some (el,S')∧y'=⟨x.e,x.c,id,x.a,x.g,x.m,x.j,tg,x.k,ca,ar,bo,el⟩)) (hS:S1.e≠0):Tg S1 S':=by
 have e:S2=S1:=by
  rcases h2 with ⟨_,h2,_⟩|⟨_,h2⟩
  · exact h2
  · unfold oV at h2
    rw [if_pos hS] at h2
    have h2:=sm h2
    injection h2 with h2 _
    exact h2.symm
 rw [e] at h3
 exact Ox h3 h4 h hS
end
theorem Ux {gu:Nat} {x y':jM} {id:Int} {S0 S':fV} (h:PQ gu x id S0 y' S') (hS:S0.e≠0):Tg S0 S':=by
 obtain ⟨tg,S1,S2,ca,ar,S3,bo,S4,a1,a2,a3,a4,a5⟩:=h.ex
 have e:=Ev hS a1
 rw [e] at a2
 exact Ob a2 a3 a4 a5 hS
theorem SC {fu gu:Nat} {fs:List kC} {C C':jD} {x y y':jM} {e:Int} {S0 S':fV} (hE:He fs C) (hln:C.c=x.c) (hsh:Shape x) (htg:x.d.length≤1) (hcall:x.e=3 ∨ x.e=6∧x.k≠(⟨#[]⟩:ByteArray)) {id:Int}
   (h0:S0=xq fs C∧¬ (x.e=3∧∃ t,x.d[0]?=some t∧t.e≠1) ∨ (x.e=3∧∃ t,x.d[0]?=some t∧t.e≠1)∧S0.e=10∧S0.c=x.c)
   (h:sO fu C ⟨x.e,x.c,id,x.a,x.g,x.m,x.j,x.d,x.k,x.h,x.b,[],[]⟩=some (e,C',y)) (hI:PQ gu x id S0 y' S'):Zr fs y e C' y' S':=by
 have hfn:x.k≠(⟨#[]⟩:ByteArray):=by
   rcases hcall with h | h
   · exact (hsh.call h).1
   · exact h.2
 have hbe:=hsh.func hfn
 have hk8:x.e≠8:=by rcases hbe.1 with h | h <;> omega
 unfold sO at h
 obtain ⟨r,h1,h2⟩:=bs h
 clear h
 dsimp only at h1
 have key:(x.e=3∧(∃ t,x.d[0]?=some t∧t.e≠1)∧r=.out (10,C,⟨x.e,x.c,id,x.a,x.g,x.m,x.j,x.d,x.k,x.h,x.b,[],[]⟩)) ∨ (¬ (x.e=3∧∃ t,x.d[0]?=some t∧t.e≠1)∧r=.go ()):=by
   cases hT:x.d with
   | nil=>
     rw [hT,nE] at h1
     exact .inr ⟨fun z=>(by obtain ⟨_,t,h,_⟩:=z;cases h),(sm h1).symm⟩
   | cons t l=>
     have hk3:x.e=3:=by
       rcases hbe.1 with h | h
       · exact h
       · have:=hsh.ret h;rw [hT] at this;cases this
     have hl:l=[]:=by
       rw [hT] at htg
       cases l with
       | nil=>rfl
       | cons a b=>simp at htg
     have hop:=(hsh.call hk3).2 t (by rw [hT];exact List.mem_cons_self ..)
     rw [hT,hl,nE] at h1
     rcases kF h1 with ⟨c,h1⟩|⟨c,h1⟩
     · exact .inl ⟨hk3,⟨t,rfl,by omega⟩,by rw [← sm h1,hl]⟩
     rcases kF h1 with ⟨c2,h1⟩|⟨c2,h1⟩
     · exact .inl ⟨hk3,⟨t,rfl,by omega⟩,by rw [← sm h1,hl]⟩
     rw [nE] at h1
     refine .inr ⟨fun z=>?_,(sm h1).symm⟩
     obtain ⟨_,t',h,h'⟩:=z
     obtain rfl:t=t':=Option.some.inj h
     omega
 rcases key with ⟨k3,kt,rfl⟩|⟨kn,rfl⟩
 · have h3:=sm h2
   injection h3 with w1 h3
   injection h3 with w2 w3
   subst w1 w2
   rcases h0 with ⟨_,h0⟩|⟨_,h0,h0'⟩
   · exact absurd ⟨k3,kt⟩ h0
   · have:=Ux hI (by rw [h0];decide)
     exact ⟨fun z=>absurd z (by decide),fun _=>⟨this.1.trans h0,(this.2.trans h0').trans hln.symm⟩⟩
 have hS0:S0=xq fs C:=by
   rcases h0 with ⟨h0,_⟩|⟨h0,_⟩
   · exact h0
   · exact absurd h0 kn
 obtain ⟨tg,S1,S2,ca,ar,S3,bo,S4,a1,a2,a3,a4,a5⟩:=hI.ex
 rw [hS0,← hln] at a1
 replace h2:=gi h2
 obtain ⟨⟨tg',e1,C1⟩,b1,b2⟩:=bs h2
 replace b2:=pi (pi b2)
 dsimp only at b1
 obtain ⟨hC1,z1,z2⟩:=(Hd fu).1 gu fs C C1 x.d tg' tg e1 S1 hE.hc hE.hr b1 a1
 rw [hC1] at b2 z1 z2
 rcases kF b2 with ⟨c,b2⟩|⟨c,b2⟩
 · have h3:=sm b2
   injection h3 with w1 h3
   injection h3 with w2 w3
   rw [← w1,← w2]
   obtain ⟨g1,g2⟩:=z2 c
   have:=Ob a2 a3 a4 a5 (by rw [g1];exact c)
   exact ⟨fun z=>absurd z c,fun _=>⟨this.1.trans g1,this.2.trans g2⟩⟩
 obtain ⟨g1,g2⟩:=z1 (by omega)
 rw [g1,g2] at a2
 have a2:=a2.resolve_left fun z=>hfn z.1
 obtain ⟨_,a2⟩:=a2
 unfold oV at a2
 rw [if_neg (show ¬ (xq fs C).e≠0 from fun z=>z rfl)] at a2
 dsimp only at a2
 rw [R3 hE] at a2
 replace a2:=BP a2
 dsimp only at b2
 cases hm:qa C.e x.k with
 | none=>
   rw [hm] at a2 b2
   rw [if_pos (by rfl)] at b2
   replace a2:=pi a2
   rw [if_pos (by rfl),Am] at a2
   have h3:=sm b2
   injection h3 with w1 h3
   injection h3 with w2 w3
   rw [← w1,← w2]
   have a2:=sm (BP a2)
   injection a2 with a2 _
   have:=Ox a3 a4 a5 (by rw [← a2];show (8:Int)≠0;decide)
   rw [← a2] at this
   exact ⟨fun z=>absurd z (by decide),fun _=>⟨this.1,this.2.trans hln.symm⟩⟩
 | some i=>
   rw [hm] at a2 b2
   rw [if_neg (by simp)] at b2
   replace a2:=pi a2
   rw [if_neg (by decide)] at a2
   obtain ⟨p,b3,b4⟩:=bs b2
   obtain ⟨f,a6,a7⟩:=bs a2
   have hp:=hE.pa i f p a6 b3
   rcases kF b4 with ⟨c4,b4⟩|⟨c4,b4⟩
   · rw [if_pos (by rw [← hp];exact c4),Am] at a7
     have h3:=sm b4
     injection h3 with w1 h3
     injection h3 with w2 w3
     rw [← w1,← w2]
     have a7:=sm (BP a7)
     injection a7 with a7 _
     have:=Ox a3 a4 a5 (by rw [← a7];show (11:Int)≠0;decide)
     rw [← a7] at this
     exact ⟨fun z=>absurd z (by decide),fun _=>⟨this.1,this.2.trans hln.symm⟩⟩
   · rw [if_neg (by rw [← hp];exact c4)] at a7
     have a7:=sm a7
     injection a7 with w4 w5
     injection w5 with _ _ _ _ _ _ _ _ _ w6
     rw [← w4,← hln] at a3
     obtain ⟨⟨ar',e2,C2⟩,b5,b6⟩:=bs b4
     obtain ⟨hC2,z3,z4⟩:=(Hd fu).1 gu fs C C2 x.b ar' ar e2 S3 hE.hc hE.hr b5 a3
     have h3:=sm (pi (pi b6))
     injection h3 with w1 h3
     injection h3 with w2 w3
     rw [← w1,← w2,hC2]
     refine ⟨fun z=>?_,fun z=>?_⟩
     · obtain ⟨g3,g4⟩:=z3 z
       rw [hC2] at g4
       rw [hbe.2.1,g4] at a4
       obtain ⟨q1,q2⟩:=EW a4
       rcases a5 with ⟨r1,r2,a5,_⟩|⟨_,el,a5,a6⟩
       · exfalso
         unfold mW at a5
         rw [if_neg hk8] at a5
         cases a5
       · rw [hbe.2.2] at a5
         obtain ⟨q3,q4⟩:=EW a5
         refine ⟨?_,q4.trans q2⟩
         rw [a6,← w3,g1,g3,q1,q3,← w6]
         rfl
     · obtain ⟨g3,g4⟩:=z4 z
       have:=Pd a4 a5 (by rw [g3];exact z)
       rw [hC2] at g4
       exact ⟨this.1.trans g3,this.2.trans g4⟩
end Go.Proofs.Ytfglbdkfnphjgaa
