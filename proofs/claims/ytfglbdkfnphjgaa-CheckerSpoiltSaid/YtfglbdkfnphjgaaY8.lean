/- The two checkers side by side: the heads of the specification. -/
import Derived.Test.YtfglbdkfnphjgaaY7
import Derived.Test.YtfglbdkfnphjgaaY5
import Derived.Test.YtfglbdkfnphjgaaY2
set_option linter.unusedVariables false
set_option linter.unusedSimpArgs false
namespace Go.Proofs.Ytfglbdkfnphjgaa
open Go.RowKit Go.Fw
def upd (S:fV) (ln e:Int):fV:=if S.e=0 then ⟨S.a,S.f,S.b,ln,e⟩ else S
theorem Ce {fu:Nat} {S:fV} {ln e:Int}:lh fu S ln e=some (upd S ln e):=by
 unfold lh upd
 split <;> rfl
theorem Ea {S:fV} {ln e ln' e':Int} (he:e≠0):upd (upd S ln e) ln' e'=upd S ln e:=by
 unfold upd
 by_cases c:S.e=0
 · rw [if_pos c,if_neg he]
 · rw [if_neg c,if_neg c]
theorem upd_ne {S:fV} {ln e:Int} (he:e≠0):(upd S ln e).e≠0:=by
 unfold upd
 by_cases c:S.e=0
 · rw [if_pos c];exact he
 · rw [if_neg c];exact c
theorem MN {S:fV} {ln e:Int}:(upd S ln e).a=S.a:=by
 unfold upd
 split <;> rfl
theorem RS {fu:Nat} {x0:fV} {u:kD} {k3:Nat}:∀ (n i:Nat) (S:fV) (r:Ld (Int × List kD × Int × Int × Int × List kC × List (List jA) × List ky × List Int) fV),k3≤5000→i≤k3→pW fu x0 u k3 n i S.a.a.a S.f S.c S.e S.a.a.b S.a.c S.a.b S.b=some r→
  ∃ (i':Int) (S':fV),r=.go (i',S'.a.a.a,S'.f,S'.c,S'.e,S'.a.a.b,S'.a.c,S'.a.b,S'.b)∧((S'=S∧∀ j w,i≤j→j < k3→x0.a.a.a[j]?=some w→w.a≠u.a) ∨ (S'=upd S 0 9∧∃ j w,i≤j∧j < k3∧x0.a.a.a[j]?=some w∧w.a=u.a))
 | 0,_,_,_,_,_,h=>by cases h
 | n+1,i,S,r,hk,hi,h=>by
  rw [pW] at h
  rcases kF h with ⟨c,h1⟩|⟨c,h1⟩
  · obtain ⟨w,h2,h3⟩:=bs h1
    have hw:=(yg h2).2
    rw [Int.toNat_natCast] at hw
    have ei:wr ((i:Int)+1)=((i+1:Nat):Int):=by rw [lD (by omega) (by omega)];omega
    rw [ei] at h3
    rcases kF h3 with ⟨c2,h4⟩|⟨c2,h4⟩
    · change (lh fu S 0 9).bind _=_ at h4
      rw [Ce] at h4
      replace h4:=BP h4
      obtain ⟨i',S',e1,e2⟩:=RS n (i+1) (upd S 0 9) r hk (by omega) h4
      refine ⟨i',S',e1,.inr ⟨?_,i,w,Nat.le_refl _,by omega,hw,c2⟩⟩
      rcases e2 with ⟨e2,_⟩|⟨e2,_⟩
      · exact e2
      · rw [e2,Ea (by decide)]
    · obtain ⟨i',S',e1,e2⟩:=RS n (i+1) S r hk (by omega) h4
      refine ⟨i',S',e1,?_⟩
      rcases e2 with ⟨e2,e3⟩|⟨e2,j,w',e3,e4,e5,e6⟩
      · refine .inl ⟨e2,fun j w' h1 h2 h3=>?_⟩
        by_cases d:j=i
        · rw [d,hw] at h3
          cases h3
          exact c2
        · exact e3 j w' (by omega) h2 h3
      · exact .inr ⟨e2,j,w',by omega,e4,e5,e6⟩
  · exact ⟨_,S,(sm h1).symm,.inl ⟨rfl,fun j w h1 h2=>by omega⟩⟩
theorem Qc {fu:Nat} {u:kD} {w:ByteArray} {k:Nat}:∀ (n i:Nat) (S:fV) (r:Ld (Int × List kD × Int × Int × Int × List kC × List (List jA) × List ky × List Int) fV),k≤5000→i≤k→qh fu u w k n i S.a.a.a S.f S.c S.e S.a.a.b S.a.c S.a.b S.b=some r→
  ∃ (i':Int) (S':fV),r=.go (i',S'.a.a.a,S'.f,S'.c,S'.e,S'.a.a.b,S'.a.c,S'.a.b,S'.b)∧((S'=S∧∀ j,i≤j→j < k→u.b[j]?≠some w) ∨ (S'=upd S 0 9∧∃ j,i≤j∧j < k∧u.b[j]?=some w))
 | 0,_,_,_,_,_,h=>by cases h
 | n+1,i,S,r,hk,hi,h=>by
  rw [qh] at h
  rcases kF h with ⟨c,h1⟩|⟨c,h1⟩
  · obtain ⟨v,h2,h3⟩:=bs h1
    have hw:=(yg h2).2
    rw [Int.toNat_natCast] at hw
    have ei:wr ((i:Int)+1)=((i+1:Nat):Int):=by rw [lD (by omega) (by omega)];omega
    rw [ei] at h3
    rcases kF h3 with ⟨c2,h4⟩|⟨c2,h4⟩
    · change (lh fu S 0 9).bind _=_ at h4
      rw [Ce] at h4
      replace h4:=BP h4
      obtain ⟨i',S',e1,e2⟩:=Qc n (i+1) (upd S 0 9) r hk (by omega) h4
      refine ⟨i',S',e1,.inr ⟨?_,i,Nat.le_refl _,by omega,by rw [hw,c2]⟩⟩
      rcases e2 with ⟨e2,_⟩|⟨e2,_⟩
      · exact e2
      · rw [e2,Ea (by decide)]
    · obtain ⟨i',S',e1,e2⟩:=Qc n (i+1) S r hk (by omega) h4
      refine ⟨i',S',e1,?_⟩
      rcases e2 with ⟨e2,e3⟩|⟨e2,j,e3,e4,e5⟩
      · refine .inl ⟨e2,fun j h1 h2 h3=>?_⟩
        by_cases d:j=i
        · rw [d,hw] at h3
          exact c2 (Option.some.inj h3)
        · exact e3 j (by omega) h2 h3
      · exact .inr ⟨e2,j,by omega,e4,e5⟩
  · exact ⟨_,S,(sm h1).symm,.inl ⟨rfl,fun j h1 h2=>by omega⟩⟩
theorem TJ {fu:Nat} {u:kD} (hu:u.b.length≤5000):∀ (l pre:List ByteArray) (S:fV) (r:Ld (List kD × Int × Int × Int × List kC × List (List jA) × List ky × List Int) fV),u.b=pre ++ l→pre.Nodup→nz fu u l pre.length S.a.a.a S.f S.c S.e S.a.a.b S.a.c S.a.b S.b=some r→
  ∃ S':fV,r=.go (S'.a.a.a,S'.f,S'.c,S'.e,S'.a.a.b,S'.a.c,S'.a.b,S'.b)∧((S'=S∧u.b.Nodup) ∨ (S'=upd S 0 9∧¬ u.b.Nodup))
 | [],pre,S,r,hp,hn,h=>by
  rw [nz] at h
  exact ⟨S,(sm h).symm,.inl ⟨rfl,by rw [hp,List.append_nil];exact hn⟩⟩
 | w :: l,pre,S,r,hp,hn,h=>by
  rw [nz] at h
  obtain ⟨r1,h1,h2⟩:=bs h
  have hlen:pre.length≤5000:=by
    rw [hp,List.length_append] at hu
    omega
  obtain ⟨i',S1,rfl,e2⟩:=Qc fu 0 S r1 hlen (Nat.zero_le _) h1
  replace h2:=gi h2
  replace h2:=pi (pi (pi (pi (pi (pi (pi (pi h2)))))))
  have hp2:u.b=(pre ++ [w]) ++ l:=by rw [hp,List.append_assoc];rfl
  have hat:∀ j,j < pre.length→u.b[j]?=pre[j]?:=fun j hj=>by rw [hp,List.getElem?_append_left hj]
  have el:pre.length+1=(pre ++ [w]).length:=jY.symm
  rw [el] at h2
  rcases e2 with ⟨rfl,e3⟩|⟨rfl,j,_,e4,e5⟩
  · refine TJ hu l (pre ++ [w]) S1 r hp2 ?_ h2
    refine List.nodup_append.2 ⟨hn,List.nodup_cons.2 ⟨fun z=>(by cases z),List.nodup_nil⟩,fun a ha b hb=>?_⟩
    simp only [List.mem_cons,List.not_mem_nil,or_false] at hb
    rw [hb]
    intro z
    obtain ⟨j,hj⟩:=List.mem_iff_getElem?.1 ha
    exact e3 j (Nat.zero_le _) (kE hj) (by rw [hat j (kE hj),hj,z])
  · have hd:¬ u.b.Nodup:=fun z=>by
     rw [hp] at z
     rw [hat j e4] at e5
     exact (List.nodup_append.1 z).2.2 w (List.mem_of_getElem? e5) w (List.mem_cons_self ..) rfl
    have hrest:∀ (l:List ByteArray) (k:Nat) (T:fV) (r:Ld (List kD × Int × Int × Int × List kC × List (List jA) × List ky × List Int) fV),k+l.length=u.b.length→T.e≠0→nz fu u l k T.a.a.a T.f T.c T.e T.a.a.b T.a.c T.a.b T.b=some r→r=.go (T.a.a.a,T.f,T.c,T.e,T.a.a.b,T.a.c,T.a.b,T.b):=by
     intro l
     induction l with
     | nil=>intro k T r _ _ h;rw [nz] at h;exact (sm h).symm
     | cons v l ih=>
      intro k T r hkl hT h
      rw [List.length_cons] at hkl
      rw [nz] at h
      obtain ⟨r1,g1,g2⟩:=bs h
      obtain ⟨i',S1,rfl,e2⟩:=Qc fu 0 T r1 (by omega) (Nat.zero_le _) g1
      have e3:S1=T:=by
       rcases e2 with ⟨e2,_⟩|⟨e2,_⟩
       · exact e2
       · rw [e2];unfold upd;rw [if_neg hT]
      replace g2:=gi g2
      replace g2:=pi (pi (pi (pi (pi (pi (pi (pi g2)))))))
      rw [e3] at g2
      exact ih (k+1) T r (by omega) hT g2
    have hne:(upd S 0 9).e≠0:=upd_ne (by decide)
    exact ⟨upd S 0 9,hrest l _ (upd S 0 9) r (by rw [hp2];simp only [List.length_append]) hne h2,.inr ⟨rfl,hd⟩⟩
end Go.Proofs.Ytfglbdkfnphjgaa
set_option linter.unusedVariables false
set_option linter.unusedSimpArgs false
namespace Go.Proofs.Ytfglbdkfnphjgaa
open Go.RowKit Go.Fw
theorem upd_same {S:fV} {ln e:Int} (h:S.e≠0):upd S ln e=S:=by
 unfold upd
 rw [if_neg h]
def xE (n:ByteArray):List ByteArray→Nat→Option Int
 | [],_=>none
 | u :: r,k=>if u=n then some (k:Int) else xE n r (k+1)
theorem Cw {n:ByteArray}:∀ (l:List ByteArray) (k:Nat),n ∉ l→xE n l k=none
 | [],_,_=>rfl
 | u :: r,k,h=>by
  rw [xE,if_neg fun z=>h (by rw [z];exact List.mem_cons_self ..)]
  exact Cw r (k+1) fun z=>h (List.mem_cons_of_mem _ z)
theorem EJ {n:ByteArray}:∀ (l:List ByteArray) (k:Nat),n ∈ l→(xE n l k).isSome=true
 | [],_,h=>by cases h
 | u :: r,k,h=>by
  rw [xE]
  by_cases c:u=n
  · rw [if_pos c];rfl
  · rw [if_neg c]
    exact EJ r (k+1) ((List.mem_cons.1 h).resolve_left fun z=>c z.symm)
theorem I8 {n u:ByteArray}:∀ (l:List ByteArray) (k:Nat),xE n (l ++ [u]) k=match xE n l k with | some i=>some i | none=>if u=n then some ((k+l.length:Nat):Int) else none
 | [],k=>by
  rw [List.nil_append,xE,xE,xE]
  rfl
 | v :: r,k=>by
  rw [List.cons_append,xE,xE]
  by_cases c:v=n
  · rw [if_pos c,if_pos c]
  · rw [if_neg c,if_neg c,I8 r (k+1),List.length_cons,show k+1+r.length=k+(r.length+1) from by omega]
theorem Ph {m:List (ByteArray × Int)} {l:List ByteArray} {u:ByteArray} (h:∀ n,qa m n=xE n l 0) (hu:u ∉ l):∀ n,qa (Cb m u (l.length:Int)) n=xE n (l ++ [u]) 0:=fun n=>by
 rw [DV,I8,h n,Nat.zero_add]
 by_cases c:n=u
 · rw [if_pos c,c,Cw l 0 hu,if_pos rfl]
 · rw [if_neg c,if_neg fun z=>c z.symm]
   cases xE n l 0 <;> rfl
theorem M9 {fu:Nat} {n:ByteArray}:∀ (l:List kD) (k:Nat),oD fu n l k=some (match xE n (l.map (·.a)) k with | some i=>.out (i,true)|none=>.go ())
 | [],_=>rfl
 | u :: r,k=>by
  rw [oD,List.map_cons,xE]
  by_cases c:u.a=n
  · rw [if_pos c,if_pos c]
  · rw [if_neg c,if_neg c,M9 r (k+1)]
theorem Ov {fu:Nat} {n:ByteArray}:∀ (l:List kC) (k:Nat),pU fu n l k=some (match xE n (l.map (·.a)) k with | some i=>.out (i,true)|none=>.go ())
 | [],_=>rfl
 | u :: r,k=>by
  rw [pU,List.map_cons,xE]
  by_cases c:u.a=n
  · rw [if_pos c,if_pos c]
  · rw [if_neg c,if_neg c,Ov r (k+1)]
theorem U1 {gu:Nat} {S:fV} {u:kD} {k:Nat} {r:Ld (List kD × Int × Int × Int × List kC × List (List jA) × List ky × List Int) fV} (h:uL gu S.a.a.a S.f S.c S.e S.a.a.b S.a.c S.a.b S.b u k=some r):∃ S':fV,r=.go (S'.a.a.a,S'.f,S'.c,S'.e,S'.a.a.b,S'.a.c,S'.a.b,S'.b)∧(((4:Int)≤(k:Int) ∨ (4:Int) < (u.b.length:Int))∧S'=upd S 0 5 ∨ ¬ ((4:Int)≤(k:Int) ∨ (4:Int) < (u.b.length:Int))∧S'=S):=by
 unfold uL at h
 obtain ⟨q,h1,h2⟩:=bs h
 unfold vW at h1
 have cas:(q=.go true∧((4:Int)≤(k:Int) ∨ (4:Int) < (u.b.length:Int))) ∨ (q=.go false∧¬ ((4:Int)≤(k:Int) ∨ (4:Int) < (u.b.length:Int))):=by
   rcases kF h1 with ⟨c,h1⟩|⟨c,h1⟩
   · exact .inl ⟨(sm h1).symm,.inl c⟩
   · by_cases d:(4:Int) < (u.b.length:Int)
     · exact .inl ⟨by rw [← sm h1,decide_eq_true d],.inr d⟩
     · exact .inr ⟨by rw [← sm h1,decide_eq_false d],fun z=>z.elim c d⟩
 rcases cas with ⟨rfl,c⟩|⟨rfl,c⟩
 · replace h2:=gi h2
   rw [if_pos rfl] at h2
   change (lh gu S 0 5).bind _=_ at h2
   rw [Ce] at h2
   exact ⟨upd S 0 5,(sm (BP h2)).symm,.inl ⟨c,rfl⟩⟩
 · replace h2:=gi h2
   rw [if_neg (by decide)] at h2
   exact ⟨S,(sm h2).symm,.inr ⟨c,rfl⟩⟩
theorem MZ {gu:Nat} {x0:fV} {u:kD} {l:List kD} {k:Nat} {S:fV} {r:Ld (List kD × Int × Int × Int × List kC × List (List jA) × List ky × List Int) fV} (hk:k≤5000) (hu:u.b.length≤5000) (h:mK gu x0 (u :: l) k S.a.a.a S.f S.c S.e S.a.a.b S.a.c S.a.b S.b=some r) :
   ∃ S1 S2 S3:fV,(((4:Int)≤(k:Int) ∨ (4:Int) < (u.b.length:Int))∧S1=upd S 0 5 ∨ ¬ ((4:Int)≤(k:Int) ∨ (4:Int) < (u.b.length:Int))∧S1=S)∧
    ((S2=S1∧∀ j w,j < k→x0.a.a.a[j]?=some w→w.a≠u.a) ∨ (S2=upd S1 0 9∧∃ j w,j < k∧x0.a.a.a[j]?=some w∧w.a=u.a))∧
    ((S3=S2∧u.b.Nodup) ∨ (S3=upd S2 0 9∧¬ u.b.Nodup))∧
    mK gu x0 l (k+1) S3.a.a.a S3.f S3.c S3.e S3.a.a.b S3.a.c S3.a.b S3.b=some r:=by
 rw [mK] at h
 obtain ⟨q1,h1,h2⟩:=bs h
 obtain ⟨S1,rfl,e1⟩:=U1 h1
 replace h2:=gi h2
 replace h2:=pi (pi (pi (pi (pi (pi (pi h2))))))
 obtain ⟨q2,h3,h4⟩:=bs h2
 obtain ⟨i',S2,rfl,e2⟩:=RS gu 0 S1 q2 hk (Nat.zero_le _) h3
 replace h4:=gi h4
 replace h4:=pi (pi (pi (pi (pi (pi (pi (pi h4)))))))
 obtain ⟨q3,h5,h6⟩:=bs h4
 obtain ⟨S3,rfl,e3⟩:=TJ hu u.b [] S2 q3 rfl List.nodup_nil h5
 replace h6:=gi h6
 replace h6:=pi (pi (pi (pi (pi (pi (pi h6))))))
 refine ⟨S1,S2,S3,e1,?_,e3,h6⟩
 rcases e2 with ⟨e2,e4⟩|⟨e2,j,w,_,e4,e5,e6⟩
 · exact .inl ⟨e2,fun j w h1 h2=>e4 j w (Nat.zero_le _) h1 h2⟩
 · exact .inr ⟨e2,j,w,e4,e5,e6⟩
theorem QT {gu:Nat} {x0:fV}:∀ (l:List kD) (k:Nat) (S:fV) (r:Ld (List kD × Int × Int × Int × List kC × List (List jA) × List ky × List Int) fV),k+l.length≤5000→(∀ u ∈ l,u.b.length≤5000)→S.e≠0→mK gu x0 l k S.a.a.a S.f S.c S.e S.a.a.b S.a.c S.a.b S.b=some r→r=.go (S.a.a.a,S.f,S.c,S.e,S.a.a.b,S.a.c,S.a.b,S.b)
 | [],k,S,r,_,_,_,h=>by
  rw [mK] at h
  exact (sm h).symm
 | u :: l,k,S,r,hk,hl,hS,h=>by
  rw [List.length_cons] at hk
  obtain ⟨S1,S2,S3,e1,e2,e3,h2⟩:=MZ (by omega) (hl u (List.mem_cons_self ..)) h
  have s1:S1=S:=by
   rcases e1 with ⟨_,e1⟩|⟨_,e1⟩
   · rw [e1,upd_same hS]
   · exact e1
  have s2:S2=S:=by
   rw [s1] at e2
   rcases e2 with ⟨e2,_⟩|⟨e2,_⟩
   · exact e2
   · rw [e2,upd_same hS]
  have s3:S3=S:=by
   rw [s2] at e3
   rcases e3 with ⟨e3,_⟩|⟨e3,_⟩
   · exact e3
   · rw [e3,upd_same hS]
  rw [s3] at h2
  exact QT l (k+1) S r (by omega) (fun u hu=>hl u (List.mem_cons_of_mem _ hu)) hS h2
theorem Ja {fu gu:Nat} {C:jD} {x0:fV}:∀ (l pre:List kD) (m:List (ByteArray × Int)) (S:fV) (r:Ld (List (ByteArray × Int) × List kD) (Int × jD)) (r':Ld (List kD × Int × Int × Int × List kC × List (List jA) × List ky × List Int) fV),x0.a.a.a=pre ++ l→pre.length+l.length≤5000→(∀ u ∈ l,u.b.length≤5000)→(∀ n,qa m n=xE n (pre.map (·.a)) 0)→(∀ u ∈ pre,u.b.Nodup)→S.e=0→
  l8 fu C l pre.length m pre=some r→mK gu x0 l pre.length S.a.a.a S.f S.c S.e S.a.a.b S.a.c S.a.b S.b=some r'→
  (∃ m',r=.go (m',pre ++ l)∧r'=.go (S.a.a.a,S.f,S.c,S.e,S.a.a.b,S.a.c,S.a.b,S.b)∧(∀ n,qa m' n=xE n ((pre ++ l).map (·.a)) 0)∧∀ u ∈ pre ++ l,u.b.Nodup) ∨ ∃ e C',r=.out (e,C')∧e≠0∧C'.c=C.c∧r'=.go ((upd S 0 e).a.a.a,(upd S 0 e).f,(upd S 0 e).c,(upd S 0 e).e,(upd S 0 e).a.a.b,(upd S 0 e).a.c,(upd S 0 e).a.b,(upd S 0 e).b)
 | [],pre,m,S,r,r',hx,hl,hf,hm,hn,hS,h,h'=>by
  rw [l8] at h
  rw [mK] at h'
  exact .inl ⟨m,by rw [List.append_nil];exact (sm h).symm,(sm h').symm,by rw [List.append_nil];exact hm,by rw [List.append_nil];exact hn⟩
 | u :: l,pre,m,S,r,r',hx,hl,hf,hm,hn,hS,h,h'=>by
  rw [List.length_cons] at hl
  rw [l8] at h
  have hu:=hf u (List.mem_cons_self ..)
  obtain ⟨S1,S2,S3,e1,e2,e3,h2⟩:=MZ (by omega) hu h'
  have hfl:∀ u ∈ l,u.b.length≤5000:=fun u hu=>hf u (List.mem_cons_of_mem _ hu)
  have fin:∀ (e:Int) (C':jD),r=.out (e,C')→e≠0→C'.c=C.c→S3=upd S 0 e→(∃ m',r=.go (m',pre ++ u :: l)∧r'=.go (S.a.a.a,S.f,S.c,S.e,S.a.a.b,S.a.c,S.a.b,S.b)∧(∀ n,qa m' n=xE n ((pre ++ u :: l).map (·.a)) 0)∧∀ v ∈ pre ++ u :: l,v.b.Nodup) ∨ ∃ e C',r=.out (e,C')∧e≠0∧C'.c=C.c∧r'=.go ((upd S 0 e).a.a.a,(upd S 0 e).f,(upd S 0 e).c,(upd S 0 e).e,(upd S 0 e).a.a.b,(upd S 0 e).a.c,(upd S 0 e).a.b,(upd S 0 e).b):=fun e C' hr he hC h3=>by
    rw [h3] at h2
    exact .inr ⟨e,C',hr,he,hC,QT l (pre.length+1) (upd S 0 e) r' (by omega) hfl (upd_ne he) h2⟩
  have keep:∀ (T T':fV) (e:Int),e≠0→T=upd S 0 e→(T'=T ∨ T'=upd T 0 9)→T'=upd S 0 e:=fun T T' e he h1 h2=>by
    rcases h2 with h2 | h2
    · rw [h2,h1]
    · rw [h2,h1,Ea he]
  have o2:S2=S1 ∨ S2=upd S1 0 9:=e2.imp And.left And.left
  have o3:S3=S2 ∨ S3=upd S2 0 9:=e3.imp And.left And.left
  rcases kF h with ⟨c1,h⟩|⟨c1,h⟩
  · have s1:S1=upd S 0 5:=by
      rcases e1 with ⟨_,e1⟩|⟨e1,_⟩
      · exact e1
      · exact absurd (.inl c1) e1
    exact fin 5 _ (sm h).symm (by decide) rfl (keep S2 S3 5 (by decide) (keep S1 S2 5 (by decide) s1 o2) o3)
  rcases kF h with ⟨c2,h⟩|⟨c2,h⟩
  · have s1:S1=upd S 0 5:=by
      rcases e1 with ⟨_,e1⟩|⟨e1,_⟩
      · exact e1
      · exact absurd (.inr c2) e1
    exact fin 5 _ (sm h).symm (by decide) rfl (keep S2 S3 5 (by decide) (keep S1 S2 5 (by decide) s1 o2) o3)
  have s1:S1=S:=by
    rcases e1 with ⟨e1,_⟩|⟨_,e1⟩
    · exact absurd e1 fun z=>z.elim c1 c2
    · exact e1
  have hmem:(∃ j w,j < pre.length∧x0.a.a.a[j]?=some w∧w.a=u.a) ↔ u.a ∈ pre.map (·.a):=by
    rw [List.mem_map]
    constructor
    · rintro ⟨j,w,h1,h2,h3⟩
      rw [hx,List.getElem?_append_left h1] at h2
      exact ⟨w,List.mem_of_getElem? h2,h3⟩
    · rintro ⟨w,h1,h2⟩
      obtain ⟨j,hj⟩:=List.mem_iff_getElem?.1 h1
      exact ⟨j,w,kE hj,by rw [hx,List.getElem?_append_left (kE hj)];exact hj,h2⟩
  rcases kF h with ⟨c3,h⟩|⟨c3,h⟩
  · have hin:u.a ∈ pre.map (·.a):=by
      by_cases d:u.a ∈ pre.map (·.a)
      · exact d
      · rw [hm,Cw _ _ d] at c3
        cases c3
    have s2:S2=upd S 0 9:=by
      rcases e2 with ⟨_,e2⟩|⟨e2,_⟩
      · obtain ⟨j,w,h1,h2,h3⟩:=hmem.2 hin
        exact absurd h3 (e2 j w h1 h2)
      · rw [e2,s1]
    exact fin 9 _ (sm h).symm (by decide) rfl (keep S2 S3 9 (by decide) s2 o3)
  have hin:u.a ∉ pre.map (·.a):=fun z=>c3 (by rw [hm];exact EJ _ _ z)
  have s2:S2=S:=by
    rcases e2 with ⟨e2,_⟩|⟨_,e2⟩
    · rw [e2,s1]
    · exact absurd (hmem.1 e2) hin
  obtain ⟨b,h3,h4⟩:=bs h
  have hb:=Bo h3
  rcases kF h4 with ⟨c4,h5⟩|⟨c4,h5⟩
  · have s3:S3=upd S 0 9:=by
      rcases e3 with ⟨_,e3⟩|⟨e3,_⟩
      · exact absurd e3 (hb.1 c4)
      · rw [e3,s2]
    exact fin 9 _ (sm h5).symm (by decide) rfl s3
  have hnd:u.b.Nodup:=Decidable.not_not.1 fun z=>c4 (hb.2 z)
  have s3:S3=S:=by
    rcases e3 with ⟨e3,_⟩|⟨_,e3⟩
    · rw [e3,s2]
    · exact absurd hnd e3
  obtain ⟨fs,h6,h7⟩:=bs h5
  obtain ⟨q,h8,h9⟩:=bs h7
  have efs:fs=u.b:=by
    unfold qM at h6
    obtain ⟨q8,g1,g2⟩:=bs h6
    rw [← sm g2,← (pK g1).2,List.nil_append]
  have eq':q=pre ++ [u]:=by rw [← (pK h8).2,efs]
  rw [eq'] at h9
  rw [s3] at h2
  have el:pre.length+1=(pre ++ [u]).length:=jY.symm
  rw [el] at h9 h2
  have ex:pre ++ u :: l=(pre ++ [u]) ++ l:=by rw [List.append_assoc];rfl
  have em:(pre.map (·.a)).length=pre.length:=List.length_map ..
  rw [ex]
  refine Ja l (pre ++ [u]) _ S r r' (by rw [hx,ex]) (by rw [jY];omega) hfl (fun n=>?_) (pq hn hnd) hS h9 h2
  rw [List.map_append,List.map_cons,List.map_nil,← Ph hm hin,em]
end Go.Proofs.Ytfglbdkfnphjgaa
set_option linter.unusedVariables false
set_option linter.unusedSimpArgs false
namespace Go.Proofs.Ytfglbdkfnphjgaa
open Go.RowKit Go.Fw
theorem Rk {gu:Nat} {i0:Nat} {fn:kC}:∀ (n i:Nat) (S:fV) (r:Ld (Int × List kD × Int × Int × Int × List kC × List (List jA) × List ky × List Int) fV),i0≤5000→i≤i0→qd gu (i0:Int) fn n i S.a.a.a S.f S.c S.e S.a.a.b S.a.c S.a.b S.b=some r→
  ∃ (i':Int) (S':fV),r=.go (i',S'.a.a.a,S'.f,S'.c,S'.e,S'.a.a.b,S'.a.c,S'.a.b,S'.b)∧((S'=S∧∀ j w,i≤j→j < i0→S.a.a.b[j]?=some w→w.a≠fn.a) ∨ (S'=upd S fn.c 9∧∃ j w,i≤j∧j < i0∧S.a.a.b[j]?=some w∧w.a=fn.a))
 | 0,_,_,_,_,_,h=>by cases h
 | n+1,i,S,r,hk,hi,h=>by
  rw [qd] at h
  rcases kF h with ⟨c,h1⟩|⟨c,h1⟩
  · obtain ⟨w,h2,h3⟩:=bs h1
    have hw:=(yg h2).2
    rw [Int.toNat_natCast] at hw
    have ei:wr ((i:Int)+1)=((i+1:Nat):Int):=by rw [lD (by omega) (by omega)];omega
    rw [ei] at h3
    rcases kF h3 with ⟨c2,h4⟩|⟨c2,h4⟩
    · change (lh gu S fn.c 9).bind _=_ at h4
      rw [Ce] at h4
      replace h4:=BP h4
      obtain ⟨i',S',e1,e2⟩:=Rk n (i+1) (upd S fn.c 9) r hk (by omega) h4
      refine ⟨i',S',e1,.inr ⟨?_,i,w,Nat.le_refl _,by omega,hw,c2⟩⟩
      rcases e2 with ⟨e2,_⟩|⟨e2,_⟩
      · exact e2
      · rw [e2,Ea (by decide)]
    · obtain ⟨i',S',e1,e2⟩:=Rk n (i+1) S r hk (by omega) h4
      refine ⟨i',S',e1,?_⟩
      rcases e2 with ⟨e2,e3⟩|⟨e2,j,w',e3,e4,e5,e6⟩
      · refine .inl ⟨e2,fun j w' h1 h2 h3=>?_⟩
        by_cases d:j=i
        · rw [d,hw] at h3
          cases h3
          exact c2
        · exact e3 j w' (by omega) h2 h3
      · exact .inr ⟨e2,j,w',by omega,e4,e5,e6⟩
  · exact ⟨_,S,(sm h1).symm,.inl ⟨rfl,fun j w h1 h2=>by omega⟩⟩
theorem Kv {gu n:Nat} {Fs:List kC} {i:Nat} {fn:kC} {S:fV} {r:Ld (Int × List kD × Int × Int × Int × List kC × List (List jA) × List ky × List Int) fV} (hl:Fs.length≤5000) (hi:Fs[i]?=some fn) (hS:S.a.a.b=Fs) (h:ny gu Fs (n+1) i S.a.a.a S.f S.c S.e S.a.a.b S.a.c S.a.b S.b=some r) :
   ∃ S1 S2:fV,((8:Int)≤(i:Int)∧S1=upd S fn.c 5 ∨ ¬ (8:Int)≤(i:Int)∧S1=S)∧((S2=S1∧∀ j w,j < i→Fs[j]?=some w→w.a≠fn.a) ∨ (S2=upd S1 fn.c 9∧∃ j w,j < i∧Fs[j]?=some w∧w.a=fn.a))∧
     ny gu Fs n ((i+1:Nat):Int) S2.a.a.a S2.f S2.c S2.e S2.a.a.b S2.a.c S2.a.b S2.b=some r:=by
 have hlt:=kE hi
 rw [ny,if_pos (by omega)] at h
 obtain ⟨w,h1,h2⟩:=bs h
 have hw:=(yg h1).2
 rw [Int.toNat_natCast,hS,hi] at hw
 have ew:fn=w:=Option.some.inj hw
 rw [← ew] at h2
 obtain ⟨q1,h3,h4⟩:=bs h2
 unfold vL at h3
 have e1:∃ S1:fV,q1=.go (S1.a.a.a,S1.f,S1.c,S1.e,S1.a.a.b,S1.a.c,S1.a.b,S1.b)∧((8:Int)≤(i:Int)∧S1=upd S fn.c 5 ∨ ¬ (8:Int)≤(i:Int)∧S1=S):=by
   rcases kF h3 with ⟨c,h3⟩|⟨c,h3⟩
   · change (lh gu S fn.c 5).bind _=_ at h3
     rw [Ce] at h3
     exact ⟨_,(sm (BP h3)).symm,.inl ⟨c,rfl⟩⟩
   · exact ⟨S,(sm h3).symm,.inr ⟨c,rfl⟩⟩
 obtain ⟨S1,rfl,e2⟩:=e1
 have eF:S1.a.a.b=Fs:=by
   rcases e2 with ⟨_,e2⟩|⟨_,e2⟩
   · rw [e2,MN,hS]
   · rw [e2,hS]
 replace h4:=gi h4
 replace h4:=pi (pi (pi (pi (pi (pi (pi h4))))))
 obtain ⟨q2,h5,h6⟩:=bs h4
 obtain ⟨i',S2,rfl,e3⟩:=Rk gu 0 S1 q2 (by omega) (Nat.zero_le _) h5
 replace h6:=gi h6
 replace h6:=pi (pi (pi (pi (pi (pi (pi (pi h6)))))))
 have ei:wr ((i:Int)+1)=((i+1:Nat):Int):=by rw [lD (by omega) (by omega)];omega
 rw [ei] at h6
 refine ⟨S1,S2,e2,?_,h6⟩
 rcases e3 with ⟨e3,e4⟩|⟨e3,j,w',_,e5,e6,e7⟩
 · exact .inl ⟨e3,fun j w h1 h2=>e4 j w (Nat.zero_le _) h1 (by rw [eF];exact h2)⟩
 · exact .inr ⟨e3,j,w',e5,by rw [← eF];exact e6,e7⟩
theorem NS {gu:Nat} {Fs:List kC} (hl:Fs.length≤5000):∀ (n i:Nat) (S:fV) (r:Ld (Int × List kD × Int × Int × Int × List kC × List (List jA) × List ky × List Int) fV),S.a.a.b=Fs→S.e≠0→ny gu Fs n i S.a.a.a S.f S.c S.e S.a.a.b S.a.c S.a.b S.b=some r→∃ i',r=.go (i',S.a.a.a,S.f,S.c,S.e,S.a.a.b,S.a.c,S.a.b,S.b)
 | 0,_,_,_,_,_,h=>by cases h
 | n+1,i,S,r,hF,hS,h=>by
  by_cases c:i < Fs.length
  · obtain ⟨fn,hfn⟩:=lL (l:=Fs) (k:=i) c
    obtain ⟨S1,S2,e1,e2,h2⟩:=Kv hl hfn hF h
    have s1:S1=S:=by
     rcases e1 with ⟨_,e1⟩|⟨_,e1⟩
     · rw [e1,upd_same hS]
     · exact e1
    have s2:S2=S:=by
     rw [s1] at e2
     rcases e2 with ⟨e2,_⟩|⟨e2,_⟩
     · exact e2
     · rw [e2,upd_same hS]
    rw [s2] at h2
    exact NS hl n (i+1) S r hF hS h2
  · rw [ny,if_neg (by omega)] at h
    exact ⟨_,(sm h).symm⟩
theorem MI {fu gu:Nat} {C:jD} {m:List (ByteArray × Int)} {rs:List kD} {Fs:List kC} (hFl:Fs.length≤5000):∀ (l pre:List kC) (n:Nat) (fm:List (ByteArray × Int)) (ps:List Int) (ln:Int) (S:fV) (r:Ld (Int × List (ByteArray × Int) × List Int) (Int × jD)) (r':Ld (Int × List kD × Int × Int × Int × List kC × List (List jA) × List ky × List Int) fV),Fs=pre ++ l→(∀ x,qa fm x=xE x (pre.map (·.a)) 0)→ps=pre.map (fun f=>(f.b.length:Int))→S.e=0→S.a.a.b=Fs→
  lZ fu C m rs l pre.length ln fm ps=some r→ny gu Fs n pre.length S.a.a.a S.f S.c S.e S.a.a.b S.a.c S.a.b S.b=some r'→
  (∃ ln' fm' i',r=.go (ln',fm',Fs.map (fun f=>(f.b.length:Int)))∧r'=.go (i',S.a.a.a,S.f,S.c,S.e,S.a.a.b,S.a.c,S.a.b,S.b)∧(∀ x,qa fm' x=xE x (Fs.map (·.a)) 0)) ∨ ∃ e C' i',r=.out (e,C')∧e≠0∧r'=.go (i',(upd S C'.c e).a.a.a,(upd S C'.c e).f,(upd S C'.c e).c,(upd S C'.c e).e,(upd S C'.c e).a.a.b,(upd S C'.c e).a.c,(upd S C'.c e).a.b,(upd S C'.c e).b)
 | [],pre,n,fm,ps,ln,S,r,r',hx,hm,hps,hS,hF,h,h'=>by
  rw [lZ] at h
  rw [List.append_nil] at hx
  obtain _ | n:=n
  · cases h'
  rw [ny,if_neg (by rw [hx];omega)] at h'
  exact .inl ⟨ln,fm,_,by rw [← sm h,hps,hx],(sm h').symm,by rw [hx];exact hm⟩
 | fn :: l,pre,n,fm,ps,ln,S,r,r',hx,hm,hps,hS,hF,h,h'=>by
  obtain _ | n:=n
  · cases h'
  rw [lZ] at h
  have hat:Fs[pre.length]?=some fn:=by rw [hx,List.getElem?_append_right (Nat.le_refl _),Nat.sub_self];rfl
  obtain ⟨S1,S2,e1,e2,h2⟩:=Kv hFl hat hF h'
  have fin:∀ (e:Int) (C':jD),r=.out (e,C')→e≠0→S2=upd S C'.c e→∃ e C' i',r=.out (e,C')∧e≠0∧r'=.go (i',(upd S C'.c e).a.a.a,(upd S C'.c e).f,(upd S C'.c e).c,(upd S C'.c e).e,(upd S C'.c e).a.a.b,(upd S C'.c e).a.c,(upd S C'.c e).a.b,(upd S C'.c e).b):=fun e C' hr he h3=>by
    rw [h3] at h2
    obtain ⟨i',h4⟩:=NS hFl n (pre.length+1) (upd S C'.c e) r' (by rw [MN];exact hF) (upd_ne he) h2
    exact ⟨e,C',i',hr,he,h4⟩
  rcases kF h with ⟨c1,h⟩|⟨c1,h⟩
  · have s1:S1=upd S fn.c 5:=by
      rcases e1 with ⟨_,e1⟩|⟨e1,_⟩
      · exact e1
      · exact absurd c1 e1
    have s2:S2=upd S fn.c 5:=by
      rcases e2 with ⟨e2,_⟩|⟨e2,_⟩
      · rw [e2,s1]
      · rw [e2,s1,Ea (by decide)]
    exact .inr (fin 5 _ (sm h).symm (by decide) s2)
  have s1:S1=S:=by
    rcases e1 with ⟨e1,_⟩|⟨_,e1⟩
    · exact absurd e1 c1
    · exact e1
  have hmem:(∃ j w,j < pre.length∧Fs[j]?=some w∧w.a=fn.a) ↔ fn.a ∈ pre.map (·.a):=by
    rw [List.mem_map]
    constructor
    · rintro ⟨j,w,h1,h2,h3⟩
      rw [hx,List.getElem?_append_left h1] at h2
      exact ⟨w,List.mem_of_getElem? h2,h3⟩
    · rintro ⟨w,h1,h2⟩
      obtain ⟨j,hj⟩:=List.mem_iff_getElem?.1 h1
      exact ⟨j,w,kE hj,by rw [hx,List.getElem?_append_left (kE hj)];exact hj,h2⟩
  rcases kF h with ⟨c3,h⟩|⟨c3,h⟩
  · have hin:fn.a ∈ pre.map (·.a):=by
      by_cases d:fn.a ∈ pre.map (·.a)
      · exact d
      · rw [hm,Cw _ _ d] at c3
        cases c3
    have s2:S2=upd S fn.c 9:=by
      rcases e2 with ⟨_,e2⟩|⟨e2,_⟩
      · obtain ⟨j,w,h1,h2,h3⟩:=hmem.2 hin
        exact absurd h3 (e2 j w h1 h2)
      · rw [e2,s1]
    exact .inr (fin 9 _ (sm h).symm (by decide) s2)
  have hin:fn.a ∉ pre.map (·.a):=fun z=>c3 (by rw [hm];exact EJ _ _ z)
  have s2:S2=S:=by
    rcases e2 with ⟨e2,_⟩|⟨_,e2⟩
    · rw [e2,s1]
    · exact absurd (hmem.1 e2) hin
  obtain ⟨q,h8,h9⟩:=bs h
  rw [s2] at h2
  have el:pre.length+1=(pre ++ [fn]).length:=jY.symm
  rw [el] at h9 h2
  have em:(pre.map (·.a)).length=pre.length:=List.length_map ..
  refine MI hFl l (pre ++ [fn]) n _ q _ S r r' (by rw [hx,List.append_assoc];rfl) (fun x=>?_) ?_ hS hF h9 h2
  · rw [List.map_append,List.map_cons,List.map_nil,← Ph hm hin,em]
  · rw [← (pK h8).2,hps,List.map_append]
    rfl
end Go.Proofs.Ytfglbdkfnphjgaa
set_option linter.unusedVariables false
set_option linter.unusedSimpArgs false
namespace Go.Proofs.Ytfglbdkfnphjgaa
open Go.RowKit Go.Fw
theorem Ki {n:ByteArray}:∀ (l:List ByteArray) (k:Nat) (i:Int),xE n l k=some i→(k:Int)≤i∧i < ((k+l.length:Nat):Int)
 | [],_,_,h=>by cases h
 | u :: r,k,i,h=>by
  rw [xE] at h
  rw [List.length_cons]
  rcases kF h with ⟨_,h⟩|⟨_,h⟩
  · have:=sm h
    omega
  · have:=Ki r (k+1) i h
    omega
theorem Q0 {gu:Nat} {p:jJ} {n:Nat} {i:Int} {S:fV} {r:Ld (Int × List kD × Int × Int × Int × List kC × List (List jA) × List ky × List Int) (jW × Int × Int)} (hS:S.e≠0) (h:oq gu p n i S.a.a.a S.f S.c S.e S.a.a.b S.a.c S.a.b S.b=some r):r=.go (i,S.a.a.a,S.f,S.c,S.e,S.a.a.b,S.a.c,S.a.b,S.b):=by
 obtain _ | n:=n
 · cases h
 rw [oq] at h
 rcases kF h with ⟨_,h⟩|⟨_,h⟩
 · rw [if_neg hS] at h
   exact (sm h).symm
 · exact (sm h).symm
theorem QS {fu gu:Nat} (hf:10100≤fu) {p:jJ} (hp:MR 5000 p) (hnd:∀ u ∈ p.a,u.b.Nodup):∀ (l pre:List kC) (n:Nat) (C:jD) (f:Int) (op:List Int) (r:Ld (List jA × Int × Int × List (ByteArray × Int) × List (ByteArray × Int) × List kD × List kC × List (List jA) × List ky × List Int × List Int) (Int × jD)) (r':Ld (Int × List kD × Int × Int × Int × List kC × List (List jA) × List ky × List Int) (jW × Int × Int)),p.b=pre ++ l→PI C→C.a.a.b.length=pre.length→C.a.a.a=p.a→(∀ x,qa C.h x=xE x (p.a.map (·.a)) 0)→(∀ x,qa C.e x=xE x (p.b.map (·.a)) 0)→C.b=p.b.map (fun f=>(f.b.length:Int))→(C.a.a.b ++ l).map (·.a)=p.b.map (·.a)→(C.a.a.b ++ l).map (fun f=>(f.b.length:Int))=p.b.map (fun f=>(f.b.length:Int))→
  l5 fu l pre.length C.g C.f C.c C.h C.e C.a.a.a C.a.a.b C.a.c C.a.b C.b C.d=some r→oq gu p n pre.length p.a f 0 0 (C.a.a.b ++ l) C.a.c C.a.b op=some r'→
  (∃ D:jD,∃ i' f' op',r=.go (D.g,D.f,D.c,D.h,D.e,D.a.a.a,D.a.a.b,D.a.c,D.a.b,D.b,D.d)∧r'=.go (i',D.a.a.a,f',0,0,D.a.a.b,D.a.c,D.a.b,op')) ∨ ∃ e C' i' a1 a2 a3 a4 a5 a6,r=.out (e,C')∧e≠0∧r'=.go (i',a1,a2,C'.c,e,a3,a4,a5,a6)
 | [],pre,n,C,f,op,r,r',hx,hP,hlen,hrec,hrm,hfm,hpa,hn1,hn2,h,h'=>by
  rw [l5] at h
  obtain _ | n:=n
  · cases h'
  rw [oq,if_neg (by rw [hx,List.append_nil];omega),List.append_nil] at h'
  exact .inl ⟨C,_,f,op,(sm h).symm,by rw [hrec];exact (sm h').symm⟩
 | fn :: l,pre,n,C,f,op,r,r',hx,hP,hlen,hrec,hrm,hfm,hpa,hn1,hn2,h,h'=>by
  obtain _ | n:=n
  · cases h'
  have h5:=hp.e
  have hat:p.b[pre.length]?=some fn:=by rw [hx,List.getElem?_append_right (Nat.le_refl _),Nat.sub_self];rfl
  have hlt:=kE hat
  have hv:=hP.ok.2.1
  rw [l5] at h
  rw [oq,if_pos (by omega),if_pos rfl] at h'
  obtain ⟨⟨e,C1⟩,h1,h2⟩:=bs h
  replace h2:=pi h2
  obtain ⟨V,h3,h4⟩:=bs h'
  obtain ⟨fn0,h6,h7⟩:=bs h4
  obtain ⟨⟨fn',S1⟩,h8,h9⟩:=bs h7
  replace h9:=pi h9
  clear h h' h4 h7
  have ef:fn0=fn:=by
    have:=(yg h6).2
    rw [Int.toNat_natCast,hat] at this
    exact (Option.some.inj this).symm
  rw [ef,← (pK h3).2,← hrec] at h8
  have ei:((pre.length:Nat):Int)=(C.a.c.length:Int):=by omega
  rw [ei] at h1 h8
  have hfn:=hp.el fn (List.mem_of_getElem? hat)
  have hE:He (C.a.a.b ++ fn :: l) ⟨C.h,C.e,C.a,C.b,[],[],(C.a.c.length:Int),fn.c⟩:=by
    refine ⟨rfl,fun r hr=>hnd r (by rw [← hrec];exact hr),fun gu n=>?_,fun gu n=>?_,fun i g q hg hq=>?_⟩
    · dsimp only
      rw [M9,hrec,hrm]
      cases xE n (p.a.map (·.a)) 0 <;> rfl
    · dsimp only
      rw [Ov,hn1,hfm]
      cases xE n (p.b.map (·.a)) 0 <;> rfl
    · dsimp only at hq
      have hg:=(yg hg).2
      have hq:=(yg hq).2
      rw [hpa,← hn2,List.getElem?_map,hg] at hq
      exact (Option.some.inj hq).symm
  have hz:=MC hf hP hfn hE h1 h8
  have hw:=D5 (Ga hf hP hfn (by omega)) h1
  rcases kF h2 with ⟨c,g1⟩|⟨c,g1⟩
  · obtain ⟨z1,z2⟩:=hz.2 c
    obtain ⟨_,_,g2⟩:=bs h9
    obtain ⟨Q,_,g3⟩:=bs g2
    have g4:=Q0 (S:=⟨⟨⟨S1.a.a.a,Q⟩,S1.a.c,S1.a.b⟩,S1.f,S1.b,S1.c,S1.e⟩) (by show S1.e≠0;rw [z1];exact c) g3
    refine .inr ⟨e,C1,wr ((pre.length:Int)+1),S1.a.a.a,S1.f,Q,S1.a.c,S1.a.b,S1.b,(sm g1).symm,c,?_⟩
    rw [g4]
    show Ld.go (_,_,_,S1.c,S1.e,_,_,_,_)=_
    rw [z1,z2]
  · have he:e=0:=by omega
    obtain ⟨y1,y2,y3,y4,y5,y6,o2,y7⟩:=hz.1 he
    have hw':e=0→PI C1∧C1.a.a.b.length=C.a.a.b.length+1:=hw
    obtain ⟨w1,w2⟩:=hw' he
    rw [y7] at h9
    dsimp only at h9
    obtain ⟨_,_,g2⟩:=bs h9
    obtain ⟨Q,g3,g4⟩:=bs g2
    have eQ:Q=C1.a.a.b ++ l:=by
      rw [D8 g3,Int.toNat_natCast,← hlen,List.set_append_right _ _ (Nat.le_refl _),Nat.sub_self,y1]
      show C.a.a.b ++ fn' :: l=(C.a.a.b ++ [fn']) ++ l
      rw [List.append_assoc]
      rfl
    have el:wr ((pre.length:Int)+1)=(((pre ++ [fn]).length:Nat):Int):=by
      rw [lD (by omega) (by omega),jY]
      omega
    have el2:pre.length+1=(pre ++ [fn]).length:=jY.symm
    rw [eQ,el,hrec] at g4
    rw [el2] at g1
    have eF:C1.a.a.b=C.a.a.b ++ [fn']:=by rw [y1]
    have eR:C1.a.a.a=p.a:=by rw [y1];exact hrec
    refine QS hf hp hnd l (pre ++ [fn]) n C1 _ o2 r r' (by rw [hx,List.append_assoc];rfl) w1 (by rw [w2,jY,hlen]) eR (by rw [y2];exact hrm) (by rw [y3];exact hfm) (by rw [y4];exact hpa) ?_ ?_ g1 g4
    · rw [← hn1,eF,List.append_assoc,List.map_append,List.map_append]
      simp [y5]
    · rw [← hn2,eF,List.append_assoc,List.map_append,List.map_append]
      simp [y6]
theorem PH {fu gu:Nat} (hf:10100≤fu) {p:jJ} (hp:MR 5000 p) {s s':jW} {ln e ln' e':Int} (h:oF fu p=some (s,ln,e)) (h':uO gu p=some (s',ln',e')):s=s'∧ln=ln'∧e=e':=by
 unfold oF at h
 unfold uO at h'
 obtain ⟨⟨e1,C1⟩,a1,a2⟩:=bs h
 replace a2:=pi a2
 obtain ⟨Fs,b1,b2⟩:=bs h'
 obtain ⟨S2,b3,b4⟩:=bs b2
 have eFs:Fs=p.b:=by rw [← (pK b1).2,List.nil_append]
 rw [eFs] at b3
 obtain ⟨rC,b5,b6⟩:=bs b4
 clear h h' b1 b2 b4
 unfold qW at a1
 unfold xx at b3
 obtain ⟨r0,c0,c1⟩:=bs a1
 obtain ⟨r0',d0,d1⟩:=bs b3
 clear a1 b3
 have herr:∀ (ln0 e0:Int),e0≠0→S2.e=e0→S2.c=ln0→e1=e0→C1.c=ln0→s=s'∧ln=ln'∧e=e':=fun ln0 e0 h0 h1 h2 h3 h4=>by
   rw [if_pos (by rw [h3];exact h0)] at a2
   have g1:=Q0 (by rw [h1];exact h0) b5
   rw [g1] at b6
   replace b6:=gi b6
   replace b6:=pi (pi (pi (pi (pi (pi (pi (pi b6)))))))
   rw [if_pos (by rw [h1];exact h0),h1,h2] at b6
   have a3:=sm a2
   have b7:=sm b6
   rw [h3,h4] at a3
   rw [a3] at b7
   injection b7 with w1 b7
   injection b7 with w2 w3
   exact ⟨w1,w2,w3⟩
 rcases Ja (fu:=fu) (gu:=gu) (C:=⟨[],[],⟨⟨[],[]⟩,[],[]⟩,[],[],[],0,0⟩) (x0:=⟨⟨⟨p.a,p.b⟩,[],[]⟩,0,[],0,0⟩) p.a [] [] ⟨⟨⟨p.a,p.b⟩,[],[]⟩,0,[],0,0⟩ r0 r0' rfl (by have:=hp.recs;show 0+p.a.length≤5000;omega) hp.fields (fun _=>rfl) (fun u hu=>by cases hu) rfl c0 d0 with ⟨m,rfl,rfl,hm,hnd⟩|⟨e2,C2,rfl,he2,hl2,rfl⟩
 · replace c1:=gi c1
   replace c1:=pi c1
   replace d1:=gi d1
   replace d1:=pi (pi (pi (pi (pi (pi (pi d1))))))
   obtain ⟨r1,c2,c3⟩:=bs c1
   obtain ⟨r1',d2,d3⟩:=bs d1
   rcases MI (fu:=fu) (gu:=gu) hp.e p.b [] gu [] [] _ ⟨⟨⟨p.a,p.b⟩,[],[]⟩,0,[],0,0⟩ r1 r1' rfl (fun _=>rfl) rfl rfl rfl c2 d2 with ⟨ln2,fm,i2,rfl,rfl,hfm⟩|⟨e2,C2,i2,rfl,he2,rfl⟩
   · replace c3:=gi c3
     replace c3:=pi (pi c3)
     replace d3:=gi d3
     replace d3:=pi (pi (pi (pi (pi (pi (pi (pi d3)))))))
     have eS:=sm d3
     rw [← eS] at b5
     obtain ⟨r2,c4,c5⟩:=bs c3
     have hPI:PI ⟨m,fm,⟨⟨p.a,[]⟩,[],[]⟩,p.b.map (fun f:kC=>(f.b.length:Int)),[],[],0,ln2⟩:=by
       refine ⟨fun n i hi=>?_,fun n i hi=>?_,Nat.zero_le _,⟨hp.recs,hp.fields⟩,fun f hf=>(by cases hf),Nat.zero_le _,rfl,fun _=>0,rfl,rfl,fun i fn V h=>by cases h⟩
       · have hi':qa m n=some i:=hi
         rw [hm,List.nil_append] at hi'
         have:=Ki _ _ _ hi'
         rw [List.length_map] at this
         dsimp only
         omega
       · have hi':qa fm n=some i:=hi
         rw [hfm] at hi'
         have:=Ki _ _ _ hi'
         rw [List.length_map] at this
         dsimp only
         rw [List.length_map]
         omega
     rcases QS (fu:=fu) (gu:=gu) hf hp hnd p.b [] gu ⟨m,fm,⟨⟨p.a,[]⟩,[],[]⟩,p.b.map (fun f:kC=>(f.b.length:Int)),[],[],0,ln2⟩ 0 [] r2 rC rfl hPI rfl rfl hm hfm rfl rfl rfl c4 b5 with ⟨D,i3,f3,op3,rfl,rfl⟩|⟨e3,C3,i3,q1,q2,q3,q4,q5,q6,rfl,he3,rfl⟩
     · have c6:=sm (show some _=some (e1,C1) from c5)
       injection c6 with w1 w2
       rw [← w1,if_neg (by simp)] at a2
       have a3:=sm a2
       have b7:=sm (show some _=some (s',ln',e') from b6)
       injection a3 with w3 a3
       injection a3 with w4 w5
       injection b7 with w6 b7
       injection b7 with w7 w8
       rw [← w3,← w4,← w5,← w6,← w7,← w8,← w2]
       exact ⟨rfl,rfl,rfl⟩
     · have c6:=sm (show some _=some (e1,C1) from c5)
       injection c6 with w1 w2
       rw [← w1,if_pos he3,← w2] at a2
       replace b6:=gi b6
       replace b6:=pi (pi (pi (pi (pi (pi (pi (pi b6)))))))
       rw [if_pos he3] at b6
       have a3:=sm a2
       have b7:=sm b6
       rw [a3] at b7
       injection b7 with w3 b7
       injection b7 with w4 w5
       exact ⟨w3,w4,w5⟩
   · have c6:=sm (show some _=some (e1,C1) from c3)
     injection c6 with w1 w2
     replace d3:=gi d3
     replace d3:=pi (pi (pi (pi (pi (pi (pi (pi d3)))))))
     have eS:=sm d3
     refine herr C2.c e2 he2 ?_ ?_ w1.symm (by rw [← w2])
     · rw [← eS]
       rfl
     · rw [← eS]
       rfl
 · have c6:=sm (show some _=some (e1,C1) from c1)
   injection c6 with w1 w2
   replace d1:=gi d1
   replace d1:=pi (pi (pi (pi (pi (pi (pi d1))))))
   obtain ⟨r1',d2,d3⟩:=bs d1
   obtain ⟨i4,g4⟩:=NS (gu:=gu) hp.e gu 0 (upd ⟨⟨⟨p.a,p.b⟩,[],[]⟩,0,[],0,0⟩ 0 e2) r1' rfl he2 d2
   rw [g4] at d3
   replace d3:=gi d3
   replace d3:=pi (pi (pi (pi (pi (pi (pi (pi d3)))))))
   have eS:=sm d3
   refine herr 0 e2 he2 ?_ ?_ w1.symm (by rw [← w2];exact hl2)
   · rw [← eS]
     rfl
   · rw [← eS]
     rfl
end Go.Proofs.Ytfglbdkfnphjgaa
set_option linter.unusedVariables false
set_option linter.unusedSimpArgs false
namespace Go.Proofs.Ytfglbdkfnphjgaa
open Go.RowKit Go.Fw
theorem Tz {fu:Nat} {l:List ky} (hl:l.length≤5000) (hf:5001≤fu):uY fu l l=some true:=by
 unfold uY
 have hL:∀ (n i:Nat),i≤l.length→l.length+1≤n+i→∃ j,qx fu l l n i=some (.go j):=by
  intro n
  induction n with
  | zero=>intro i h1 h2;omega
  | succ n ih=>
   intro i h1 h2
   rw [qx]
   by_cases c:i < l.length
   · obtain ⟨x,hx⟩:=lL (l:=l) (k:=i) c
     rw [if_pos (by omega),ES hx,Dn,Dn,if_neg (by simp),FT (by omega)]
     exact ih (i+1) (by omega) (by omega)
   · rw [if_neg (by omega)]
     exact ⟨_,rfl⟩
 obtain ⟨j,hj⟩:=hL fu 0 (Nat.zero_le _) (by omega)
 rw [if_neg (by simp)]
 exact (congrArg (fun z=>Option.bind z _) hj).trans rfl
theorem TR {fu:Nat} {l:List jA} (hl:l.length≤5000) (hf:5001≤fu):vT fu l l=some true:=by
 unfold vT
 have hL:∀ (n i:Nat),i≤l.length→l.length+1≤n+i→∃ j,qX fu l l n i=some (.go j):=by
  intro n
  induction n with
  | zero=>intro i h1 h2;omega
  | succ n ih=>
   intro i h1 h2
   rw [qX]
   by_cases c:i < l.length
   · obtain ⟨x,hx⟩:=lL (l:=l) (k:=i) c
     rw [if_pos (by omega),ES hx,Dn,Dn,if_neg (fun z=>z rfl),FT (by omega)]
     exact ih (i+1) (by omega) (by omega)
   · rw [if_neg (by omega)]
     exact ⟨_,rfl⟩
 obtain ⟨j,hj⟩:=hL fu 0 (Nat.zero_le _) (by omega)
 rw [if_neg (by simp)]
 exact (congrArg (fun z=>Option.bind z _) hj).trans rfl
structure Pz (s:jW):Prop where
 rl:s.a.a.length≤5000∧∀ r ∈ s.a.a,r.b.length≤5000
 fl:s.a.b.length≤5000
 pl:∀ f ∈ s.a.b,f.b.length≤5000
 bo:∀ f ∈ s.a.b,∃ K V S i a b,SN K V S i f.f a b∧b≤200
 vl:s.c.length≤5000∧∀ V ∈ s.c,V.length≤5000
 st:s.b.length≤5000
theorem OT {fu:Nat} (hf:10300≤fu) {s:jW} (h:Pz s):vg fu s s=some true:=by
 have h1:=h.rl.1;have h2:=h.fl;have h3:=h.vl.1;have h4:=h.st
 have hP:vN fu s.a s.a true=some true:=by
  unfold vN
  have hA:∀ (n i:Nat),i≤s.a.a.length→s.a.a.length+1≤n+i→∃ j,qY fu s.a s.a n i=some (.go j):=by
   intro n
   induction n with
   | zero=>intro i h1 h2;omega
   | succ n ih=>
     intro i g1 g2
     rw [qY]
     by_cases c:i < s.a.a.length
     · obtain ⟨x,hx⟩:=lL (l:=s.a.a) (k:=i) c
       rw [if_pos (by omega),ES hx,Dn,Dn,if_neg (by simp),QY (by omega) (h.rl.2 x (List.mem_of_getElem? hx)),Dn,if_neg (by decide),FT (by omega)]
       exact ih (i+1) (by omega) (by omega)
     · rw [if_neg (by omega)]
       exact ⟨_,rfl⟩
  have hB:∀ (n i:Nat),i≤s.a.b.length→s.a.b.length+1≤n+i→∃ j,qb fu s.a s.a true n i=some (.go j):=by
   intro n
   induction n with
   | zero=>intro i h1 h2;omega
   | succ n ih=>
     intro i g1 g2
     rw [qb]
     by_cases c:i < s.a.b.length
     · obtain ⟨x,hx⟩:=lL (l:=s.a.b) (k:=i) c
       have hm:=List.mem_of_getElem? hx
       obtain ⟨K,V,S,q,a,b,hb,hb2⟩:=h.bo x hm
       rw [if_pos (by omega),ES hx,Dn,Dn,if_neg (by simp),if_pos rfl,if_neg (by simp),QY (by omega) (h.pl x hm),Dn,if_neg (by decide),OO fu x.f a b hb hb2 (by omega),Dn,if_neg (by decide),FT (by omega)]
       exact ih (i+1) (by omega) (by omega)
     · rw [if_neg (by omega)]
       exact ⟨_,rfl⟩
  obtain ⟨j,hj⟩:=hA fu 0 (Nat.zero_le _) (by omega)
  obtain ⟨k,hk⟩:=hB fu 0 (Nat.zero_le _) (by omega)
  rw [if_neg (by simp),if_neg (by simp)]
  refine (congrArg (fun z=>Option.bind z _) hj).trans ?_
  exact (congrArg (fun z=>Option.bind z _) hk).trans rfl
 unfold vg
 rw [hP,Dn,if_neg (by decide),if_neg (by simp),Tz h4 (by omega),Dn,if_neg (by decide)]
 have hC:∀ (n i:Nat),i≤s.c.length→s.c.length+1≤n+i→∃ j,sI fu s s n i=some (.go j):=by
  intro n
  induction n with
  | zero=>intro i h1 h2;omega
  | succ n ih=>
   intro i g1 g2
   rw [sI]
   by_cases c:i < s.c.length
   · obtain ⟨x,hx⟩:=lL (l:=s.c) (k:=i) c
     rw [if_pos (by omega),ES hx,Dn,Dn,TR (h.vl.2 x (List.mem_of_getElem? hx)) (by omega),Dn,if_neg (by decide),FT (by omega)]
     exact ih (i+1) (by omega) (by omega)
   · rw [if_neg (by omega)]
     exact ⟨_,rfl⟩
 obtain ⟨j,hj⟩:=hC fu 0 (Nat.zero_le _) (by omega)
 exact (congrArg (fun z=>Option.bind z _) hj).trans rfl
end Go.Proofs.Ytfglbdkfnphjgaa
set_option linter.unusedVariables false
set_option linter.unusedSimpArgs false
namespace Go.Proofs.Ytfglbdkfnphjgaa
open Go.RowKit Go.Fw
theorem Qf {fu:Nat} {p:jJ} {s:jW} {ln e:Int} (h:oF fu p=some (s,ln,e)) (he:e≠0):s=⟨⟨[],[]⟩,[],[]⟩:=by
 unfold oF at h
 obtain ⟨⟨e1,C1⟩,_,h⟩:=bs h
 replace h:=pi h
 rcases kF h with ⟨_,h⟩|⟨_,h⟩
 · have h:=sm h
   injection h with h _
   exact h.symm
 · have h:=sm h
   injection h with _ h
   injection h with _ h
   exact absurd h.symm he
theorem Pz.nil:Pz ⟨⟨[],[]⟩,[],[]⟩:=⟨⟨Nat.zero_le _,fun r hr=>(by cases hr)⟩,Nat.zero_le _,fun f hf=>(by cases hf),fun f hf=>(by cases hf),⟨Nat.zero_le _,fun V hV=>(by cases hV)⟩,Nat.zero_le _⟩
theorem NU {fu:Nat} (hf:10300≤fu) {x:ByteArray}:kI (xY fu x) (fun b=>b=true):=by
 unfold xY
 refine .bp (Qb (by omega)) fun p r hr=>.pp hr fun a e hp=>.ite (fun _=>.mk rfl) fun c=>?_
 have hp:=hp (by omega)
 obtain ⟨⟨s,ln,e1⟩,h1,hs⟩:=PV (fu:=fu) (by omega) hp
 obtain ⟨⟨s',ln',e1'⟩,h2,_⟩:=PL (fu:=fu) (by omega) hp
 obtain ⟨w1,w2,w3⟩:=PH (by omega) hp h1 h2
 rw [h1,Dn]
 have hS:Pz s:=by
  by_cases c2:e1=0
  · obtain ⟨ok,f1,f2,f3⟩:=hs c2
    obtain ⟨g1,g2,B,g3,g4,g5⟩:=ok
    refine ⟨f2,f1,f3,fun f hf=>?_,⟨by omega,fun V hV=>?_⟩,by omega⟩
    · obtain ⟨i,hi⟩:=List.mem_iff_getElem?.1 hf
      obtain ⟨V,hV⟩:=lL (l:=s.c) (k:=i) (by have:=kE hi;omega)
      have k:=g5 i f V hi hV
      have hlt:=kE hV
      exact ⟨_,_,_,_,_,_,k.sn,UO g1 g2 g4 g5 (s.c.length - (i+1)) (i+1) (by omega)⟩
    · obtain ⟨i,hi⟩:=List.mem_iff_getElem?.1 hV
      obtain ⟨fn,hfn⟩:=lL (l:=s.a.b) (k:=i) (by have:=kE hi;omega)
      have:=(g5 i fn V hfn hi).vn
      omega
  · rw [Qf h1 c2]
    exact Pz.nil
 show kI ((uO fu p).bind _) _
 rw [h2,Dn,← w1,← w2,← w3]
 show kI ((vg fu s s).bind _) _
 rw [OT hf hS,Dn,if_pos rfl,if_pos rfl]
 exact .mk (decide_eq_true rfl)
end Go.Proofs.Ytfglbdkfnphjgaa
