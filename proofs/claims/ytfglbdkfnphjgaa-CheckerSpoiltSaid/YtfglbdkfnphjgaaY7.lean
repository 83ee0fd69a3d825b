/- The two checkers side by side: any statement. -/
import Derived.Test.YtfglbdkfnphjgaaY6
import Derived.Test.YtfglbdkfnphjgaaY5
set_option linter.unusedVariables false
set_option linter.unusedSimpArgs false
namespace Go.Proofs.Ytfglbdkfnphjgaa
open Go.RowKit Go.Fw
theorem Sc {fu:Nat} {C C':jD} {n:Int} (h:lC fu C n=some C'):C'.c=C.c:=by
 unfold lC at h
 obtain ⟨q1,_,h1⟩:=bs h
 obtain ⟨r,h2,h3⟩:=bs h1
 cases r with
 | out o=>exact (EI _ _ _ _ h2).elim
 | go V=>
  replace h3:=gi h3
  obtain ⟨q2,_,h4⟩:=bs h3
  rw [← sm h4]
theorem RX {fu:Nat} {C C':jD} {n:Nat} (hn:n=C.d.length) (h:lC fu C n=some C'):C'=C:=by
 unfold lC at h
 obtain ⟨q1,a1,h1⟩:=bs h
 obtain ⟨r,h2,h3⟩:=bs h1
 have e1:q1=[]:=by
  unfold Go.Fw.sl at a1
  rcases kF a1 with ⟨_,a1⟩|⟨_,a1⟩
  · rw [← sm a1,hn]
    simp
  · cases a1
 rw [e1,kJ] at h2
 obtain rfl:=sm h2
 replace h3:=gi h3
 obtain ⟨q2,a2,h4⟩:=bs h3
 have e2:q2=C.d:=by
  unfold Go.Fw.sl at a2
  rcases kF a2 with ⟨_,a2⟩|⟨_,a2⟩
  · rw [← sm a2,hn]
    simp
  · cases a2
 rw [← sm h4,e2]
theorem TH {fu:Nat} {C C':jD} {n:Nat} {s:List Int} {i:Int} (hs:C.d=s ++ [i]) (hn:n=s.length) (h:lC fu C n=some C'):∃ x V,ix C.g i=some x∧st C.g i ⟨x.a,x.e,x.b,x.f,x.c,x.d,wr ((C.a.b.length:Int) - 1)⟩=some V∧C'=⟨C.h,C.e,C.a,C.b,V,s,C.f,C.c⟩:=by
 unfold lC at h
 obtain ⟨q1,a1,h1⟩:=bs h
 obtain ⟨r,h2,h3⟩:=bs h1
 have e1:q1=[i]:=by
  unfold Go.Fw.sl at a1
  rcases kF a1 with ⟨_,a1⟩|⟨_,a1⟩
  · rw [← sm a1,hs,hn,Int.toNat_natCast,List.drop_left']
    · simp
    · rfl
  · cases a1
 rw [e1,kJ] at h2
 obtain ⟨x,b1,b2⟩:=bs h2
 obtain ⟨V,b3,b4⟩:=bs b2
 rw [kJ] at b4
 obtain rfl:=sm b4
 replace h3:=gi h3
 obtain ⟨q2,a2,h4⟩:=bs h3
 have e2:q2=s:=by
  unfold Go.Fw.sl at a2
  rcases kF a2 with ⟨_,a2⟩|⟨_,a2⟩
  · rw [← sm a2,hs,hn]
    simp
  · cases a2
 exact ⟨x,V,b1,b3,by rw [← sm h4,e2]⟩
theorem Sn {fu:Nat} {C C':jD} {v:jA} {i:Int} (h:nA fu C v=some (i,0,C')):C'.d=C.d ++ [i]∧C'.c=C.c:=by
 unfold nA at h
 obtain ⟨⟨w,b⟩,h1,h⟩:=bs h
 replace h:=pi h
 rcases kF h with ⟨c,h⟩|⟨c,h⟩
 · have h:=sm h
   injection h with _ h
   injection h with h _
   exact absurd h (by decide)
 rcases kF h with ⟨c2,h⟩|⟨c2,h⟩
 · have h:=sm h
   injection h with _ h
   injection h with h _
   exact absurd h (by decide)
 obtain ⟨⟨j,C1⟩,h2,h⟩:=bs h
 replace h:=pi h
 have h:=sm h
 injection h with hi h
 injection h with _ hC
 unfold pR at h2
 obtain ⟨r,hr,h2⟩:=bs h2
 obtain ⟨q,hq,h2⟩:=bs h2
 have h2:=sm h2
 injection h2 with hj hC1
 rw [← hC,← hi,← hC1,← hj]
 exact ⟨(pK hq).2.symm,rfl⟩
def U2 (fu:Nat):Prop:=∀ (gu:Nat) (F:Int) (fs:List kC) (n id:Nat) (C C':jD) (x y y':jM) (e:Int) (S':fV),CI F C→F≤id→C.a.b.length=id+1→(∀ (i:Nat) (x:jA),C.g[i]?=some x→x.d≤id)→He fs C→C.c=x.c→CJ 5000 n x→x.k=(⟨#[]⟩:ByteArray)→4 * n+10003≤fu→
 kV fu C ⟨x.e,x.c,(id:Int),x.a,x.g,x.m,x.j,x.d,x.k,x.h,x.b,x.f,x.i⟩=some (e,C',y)→PQ gu x id (xq fs C) y' S'→Zr fs y e C' y' S'
theorem Ql {fu:Nat} (ih:Vf fu):U2 (fu+1):=by
 intro gu F fs n id C C' x y y' e S' hC hF hid hfr hE hln hx hfn hf h hI
 obtain _ | n:=n
 · exact hx.elim
 obtain ⟨x1,x2,x3,x4,x5⟩:=hx
 change rA fu (kY fu) (kw fu) (kV fu) (kU fu) C _=_ at h
 unfold rA at h
 dsimp only at h
 obtain ⟨tg,S1,S2,ca,ar,S3,bo,S4,a1,a2,a3,a4,a5⟩:=hI.ex
 rw [← hln] at a1
 obtain ⟨⟨tg',e1,C1⟩,b1,b2⟩:=bs h
 replace b2:=pi (pi b2)
 obtain ⟨hC1,z1,z2⟩:=(Hd fu).1 gu fs C C1 x.d tg' tg e1 S1 hE.hc hE.hr b1 a1
 rw [hC1] at b2 z1 z2
 clear h b1
 rcases kF b2 with ⟨c,b3⟩|⟨c,b3⟩
 · have h3:=sm b3
   injection h3 with w1 h3
   injection h3 with w2 w3
   rw [← w1,← w2]
   obtain ⟨g1,g2⟩:=z2 c
   have:=Ob a2 a3 a4 a5 (by rw [g1];exact c)
   exact ⟨fun z=>absurd z c,fun _=>⟨this.1.trans g1,this.2.trans g2⟩⟩
 clear b2
 obtain ⟨g1,g2⟩:=z1 (by omega)
 obtain ⟨_,hS2,hca⟩:=a2.resolve_right fun z=>z.1 hfn
 rw [hS2,g2,← hln] at a3
 obtain ⟨⟨ar',e2,C2⟩,b4,b5⟩:=bs b3
 replace b5:=pi (pi b5)
 obtain ⟨hC2,z3,z4⟩:=(Hd fu).1 gu fs C C2 x.b ar' ar e2 S3 hE.hc hE.hr b4 a3
 rw [hC2] at b5 z3 z4
 clear b3 b4
 rcases kF b5 with ⟨c2,b6⟩|⟨c2,b6⟩
 · have h3:=sm b6
   injection h3 with w1 h3
   injection h3 with w2 w3
   rw [← w1,← w2]
   obtain ⟨g3,g4⟩:=z4 c2
   have:=Pd a4 a5 (by rw [g3];exact c2)
   exact ⟨fun z=>absurd z c2,fun _=>⟨this.1.trans g3,this.2.trans g4⟩⟩
 clear b5
 obtain ⟨g3,g4⟩:=z3 (by omega)
 rw [g4] at a4
 obtain ⟨⟨bo',e3,C3⟩,b7,b8⟩:=bs b6
 replace b8:=pi (pi b8)
 clear b6
 have z5:=ih gu F fs n C C3 x.f bo' bo e3 S4 hC (by omega) hE x3.1 x3.2 (by omega) b7 a4
 have k3:=D5 ((zy fu).2.2.2 F C x.f n hC (by omega) x3.1 x3.2 (by omega)) b7
 have k3:CI F C3∧CS C C3∧C3.d=C.d∧_:=k3
 obtain ⟨k31,k32,k33,_⟩:=k3
 have hl3:=k32.len
 rcases kF b8 with ⟨c3,b9⟩|⟨c3,b9⟩
 · have h3:=sm b9
   injection h3 with w1 h3
   injection h3 with w2 w3
   rw [← w1,← w2]
   obtain ⟨g5,g6⟩:=z5.2 c3
   have:=QR a5 (by rw [g5];exact c3)
   exact ⟨fun z=>absurd z c3,fun _=>⟨this.1.trans g5,this.2.trans g6⟩⟩
 clear b8
 obtain ⟨g5,g6⟩:=z5.1 (by omega)
 obtain ⟨rJ,b10,b11⟩:=bs b9
 clear b9
 unfold sP at b10
 dsimp only at b10
 have hE3:=hE.cs k32
 by_cases c8:x.e=8
 · rw [if_pos c8] at b10
   obtain ⟨⟨i,e4,C4⟩,b12,b13⟩:=bs b10
   replace b13:=pi (pi b13)
   clear b10
   have hcI:CI F ⟨C3.h,C3.e,C3.a,C3.b,C3.g,C3.d,C3.f,x.c⟩:=⟨k31.vn,k31.sc,k31.sl,k31.st,k31.rm,k31.fm,k31.rk,k31.vr⟩
   have k4:=D5 (Ey (fu:=fu) (v:=⟨x.a,1,-1,1,false,0,0⟩) hcI (fun z=>absurd z (by show ¬ (1:Int)=2;decide)) (by dsimp only;omega) rfl) b12
   obtain ⟨k41,k42,_,k44⟩:=k4
   have k42':CS C3 C4:=⟨k42.rc,k42.fc,k42.pg,k42.vs,k42.pa,k42.cu,k42.st,k42.vr,k42.np⟩
   rcases a5 with ⟨r1,r2,a5,rfl⟩|⟨a5,_⟩
   · unfold mW at a5
     rw [if_pos c8,g6,if_pos (show (xq fs C3).e=0 from rfl)] at a5
     obtain ⟨op,d1,d2⟩:=bs a5
     obtain ⟨⟨i',S5⟩,d3,d4⟩:=bs d2
     replace d4:=pi d4
     obtain ⟨⟨el,S6⟩,d5,d6⟩:=bs d4
     replace d6:=pi d6
     obtain ⟨rV,d7,d8⟩:=bs d6
     clear a5 d2 d4 d6
     have z6:=IM (fu:=fu) (gu:=gu) (fs:=fs) (C:=⟨C3.h,C3.e,C3.a,C3.b,C3.g,C3.d,C3.f,x.c⟩) hE3.hc b12 d3
     have hop:op=C3.d:=by rw [← (pK d1).2,List.nil_append];rfl
     unfold wL at d7
     rcases kF b13 with ⟨c4,b14⟩|⟨c4,b14⟩
     · rw [← sm b14] at b11
       have h3:=sm b11
       injection h3 with w1 h3
       injection h3 with w2 w3
       rw [← w1,← w2]
       obtain ⟨q1,q2⟩:=z6.2 c4
       have q3:=EM (by rw [q1];exact c4) d5
       rw [if_neg (by rw [q3.1,q1];exact c4)] at d7
       rw [← sm d7] at d8
       have d9:=sm d8
       injection d9 with d9
       injection d9 with _ d9
       rw [← d9]
       exact ⟨fun z=>absurd z c4,fun _=>⟨q3.1.trans q1,q3.2.trans q2⟩⟩
     · have he4:e4=0:=by omega
       rw [← sm b14] at b11
       replace b11:=gi b11
       replace b11:=pi (pi (pi (pi (pi (pi (pi (pi (pi (pi (pi b11))))))))))
       obtain ⟨⟨el',e5,C5⟩,b15,b16⟩:=bs b11
       replace b16:=pi (pi b16)
       obtain ⟨C6,b17,b18⟩:=bs b16
       have h3:=sm b18
       injection h3 with w1 h3
       injection h3 with w2 w3
       rw [← w1,← w2]
       obtain ⟨q1,q2⟩:=z6.1 he4
       rw [q2] at d5
       have z7:=ih gu F fs n C4 C5 x.i el' el e5 S6 k41 (by rw [k44];dsimp only;omega) (hE3.cs k42') x4.1 x4.2 (by omega) b15 d5
       by_cases c5:e5=0
       · obtain ⟨q3,q4⟩:=z7.1 c5
         refine ⟨fun _=>?_,fun z=>absurd c5 z⟩
         rw [he4] at b12
         have hsc:=(Sn b12).1
         have k5:=D5 ((zy fu).2.2.2 F C4 x.i n k41 (by rw [k44];dsimp only;omega) x4.1 x4.2 (by omega)) b15
         have k5:CI F C5∧CS C4 C5∧C5.d=C4.d∧_:=k5
         obtain ⟨xv,V,f1,f2,f3⟩:=TH (k5.2.2.1.trans hsc) rfl b17
         rw [q4,if_pos (show (xq fs C5).e=0 from rfl)] at d7
         have hc5:=((hE3.cs k42').cs k5.2.1).hc
         rw [show (xq fs C5).a.c=C5.a.c ++ [C5.g] from rfl,show (xq fs C5).f=C5.f from rfl,Ol hc5] at d7
         replace d7:=BP d7
         rw [q1,f1] at d7
         replace d7:=BP d7
         rw [show (xq fs C5).a.b=C5.a.b from rfl,f2] at d7
         replace d7:=BP d7
         obtain ⟨Q,f4,f5⟩:=bs d7
         have e6:Q=C5.a.c ++ [V]:=by
          unfold Go.Fw.st at f4
          rcases kF f4 with ⟨_,f4⟩|⟨_,f4⟩
          · have f4:=sm f4
            rw [hc5,Int.toNat_natCast,List.set_append_right _ _ (Nat.le_refl _),Nat.sub_self] at f4
            exact f4.symm
          · cases f4
         rw [← sm f5,e6] at d8
         have d9:=sm d8
         injection d9 with d9
         injection d9 with d9 d10
         rw [← d9,← d10,← w3,f3,hop,q1,q3,g1,g3,g5,hca,q4]
         exact ⟨rfl,rfl⟩
       · obtain ⟨q3,q4⟩:=z7.2 c5
         refine ⟨fun z=>absurd z c5,fun _=>?_⟩
         rw [if_neg (by rw [q3];exact c5)] at d7
         rw [← sm d7] at d8
         have d9:=sm d8
         injection d9 with d9
         injection d9 with _ d9
         rw [← d9,Sc b17]
         exact ⟨q3,q4⟩
   · exfalso
     rcases a5 with a5 | a5
     · exact a5 c8
     · rw [g6] at a5
       exact a5 rfl
 · rw [if_neg c8] at b10
   rw [← sm b10] at b11
   replace b11:=gi b11
   replace b11:=pi (pi (pi (pi (pi (pi (pi (pi (pi (pi (pi b11))))))))))
   obtain ⟨⟨el',e5,C5⟩,b15,b16⟩:=bs b11
   replace b16:=pi (pi b16)
   obtain ⟨C6,b17,b18⟩:=bs b16
   have h3:=sm b18
   injection h3 with w1 h3
   injection h3 with w2 w3
   rw [← w1,← w2]
   rcases a5 with ⟨r1,r2,a5,_⟩|⟨_,el,a5,a6⟩
   · exfalso
     unfold mW at a5
     rw [if_neg c8] at a5
     cases a5
   rw [g6] at a5
   have z7:=ih gu F fs n C3 C5 x.i el' el e5 S' k31 (by omega) hE3 x4.1 x4.2 (by omega) b15 a5
   have k5:=D5 ((zy fu).2.2.2 F C3 x.i n k31 (by omega) x4.1 x4.2 (by omega)) b15
   have k5:CI F C5∧CS C3 C5∧C5.d=C3.d∧_:=k5
   have hC6:=RX (by rw [k5.2.2.1]) b17
   rw [hC6]
   refine ⟨fun z=>?_,z7.2⟩
   obtain ⟨q3,q4⟩:=z7.1 z
   refine ⟨?_,q4⟩
   rw [a6,← w3,g1,g3,g5,q3,hca]
end Go.Proofs.Ytfglbdkfnphjgaa
set_option linter.unusedVariables false
set_option linter.unusedSimpArgs false
namespace Go.Proofs.Ytfglbdkfnphjgaa
open Go.RowKit Go.Fw
theorem RU {F:Int} {C:jD} (hC:CI F C) (hl:¬ (200:Int)≤(C.a.b.length:Int)) (k ln:Int):CI F ⟨C.h,C.e,⟨C.a.a,C.a.c,C.a.b ++ [⟨C.f,k,ln⟩]⟩,C.b,C.g,C.d,C.f,ln⟩∧CS C ⟨C.h,C.e,⟨C.a.a,C.a.c,C.a.b ++ [⟨C.f,k,ln⟩]⟩,C.b,C.g,C.d,C.f,ln⟩:=by
 have hlen:(C.a.b ++ [(⟨C.f,k,ln⟩:ky)]).length=C.a.b.length+1:=jY
 refine ⟨⟨hC.vn,hC.sc,hC.sl,by dsimp only;omega,hC.rm,hC.fm,hC.rk,fun i v hv=>?_⟩,⟨rfl,rfl,rfl,rfl,rfl,rfl,⟨_,rfl⟩,CS.rfl'.vr,CS.rfl'.np⟩⟩
 obtain ⟨a1,a2,a3,a4⟩:=hC.vr i v hv
 refine ⟨a1,by dsimp only;omega,?_,a4⟩
 rcases a3 with a3 | a3
 · exact .inl a3
 · exact .inr ⟨a3.1,by dsimp only;omega⟩
theorem Te {fu:Nat} (ih:U2 fu):TM (fu+1):=by
 intro gu F fs n C C' x y y' e S' hC hF hE hx hf h h'
 obtain _ | gu:=gu
 · cases h'
 obtain _ | n:=n
 · exact hx.elim
 have hsh:=hx.2.2.2.2
 change oM fu (kY fu) (kw fu) (kV fu) (kU fu) C x=_ at h
 unfold oM at h
 rcases kF h with ⟨c,h1⟩|⟨c,h1⟩
 · change sV gu (kR gu) (qc gu) (xq fs C) x=_ at h'
   unfold sV at h'
   rw [show (xq fs C).a.b=C.a.b from rfl,if_pos c,Am] at h'
   have h3:=sm h1
   injection h3 with w1 h3
   injection h3 with w2 w3
   have h4:=sm (BP h')
   injection h4 with _ h4
   rw [← w2,← w3,← h4]
   exact ⟨fun z=>absurd z (by decide),fun _=>⟨rfl,rfl⟩⟩
 obtain ⟨K,hK,h2⟩:=bs h1
 clear h h1
 have hK':K=C.a.b ++ [⟨C.f,x.e,x.c⟩]:=(pK hK).2.symm
 have hKl:K.length=C.a.b.length+1:=by rw [hK'];exact jY
 obtain ⟨hI,hS⟩:=RU hC c x.e x.c
 rw [← hK'] at hI hS
 have hE1:=hE.cs hS
 rcases kF h2 with ⟨ck,h3⟩|⟨ck,h3⟩
 · obtain ⟨⟨v,e1,C1⟩,b1,b2⟩:=bs h3
   have b3:=sm (pi (pi b2))
   injection b3 with w1 b3
   injection b3 with w2 w3
   rw [← w2,← w3]
   change sV gu (kR gu) (qc gu) (xq fs C) x=_ at h'
   unfold sV at h'
   rw [show (xq fs C).a.b=C.a.b from rfl,if_neg c,show (xq fs C).f=C.f from rfl,hK] at h'
   replace h':=BP h'
   obtain ⟨q0,a1,a2⟩:=bs h'
   obtain ⟨S1,v',rfl,z1,z2⟩:=Mf (fu:=fu) hE hsh.type b1 (by rw [lD (by omega) (by omega)];omega) ck a1
   have a3:=sm (show some _=some (y',S') from a2)
   injection a3 with w4 w5
   obtain ⟨d1,d2,d3,d4,d5⟩:=hsh.decl ck
   rw [← w5,← w4,← w1,d1,d2,d3,d4]
   refine ⟨fun z=>?_,z2⟩
   obtain ⟨g1,g2⟩:=z1 z
   rw [g1]
   exact ⟨rfl,g2⟩
 obtain ⟨S0,hS0,hInv⟩:=UH ck c hK h'
 obtain ⟨rb,b1,b2⟩:=bs h3
 unfold qg at b1
 have cas:(rb=.go true∧(x.e=3 ∨ x.e=6∧x.k≠(⟨#[]⟩:ByteArray))) ∨ (rb=.go false∧x.e≠3∧x.k=(⟨#[]⟩:ByteArray)):=by
   rcases kF b1 with ⟨c1,b1⟩|⟨c1,b1⟩
   · exact .inl ⟨by rw [← sm b1,decide_eq_true c1],.inl c1⟩
   rcases kF b1 with ⟨c2,b1⟩|⟨c2,b1⟩
   · by_cases c3:x.k=(⟨#[]⟩:ByteArray)
     · exact .inr ⟨by rw [← sm b1,decide_eq_false (fun z=>z c3)],c1,c3⟩
     · exact .inl ⟨by rw [← sm b1,decide_eq_true c3],.inr ⟨c2,c3⟩⟩
   · refine .inr ⟨(sm b1).symm,c1,?_⟩
     by_cases c3:x.k=(⟨#[]⟩:ByteArray)
     · exact c3
     · rcases (hsh.func c3).1 with c4 | c4
       · exact absurd c4 c1
       · exact absurd c4 c2
 rcases cas with ⟨rfl,hcl⟩|⟨rfl,hk3,hfn⟩
 · replace b2:=gi b2
   rw [if_pos rfl] at b2
   obtain ⟨⟨e1,C1,y1⟩,b3,b4⟩:=bs b2
   have b5:=sm (pi (pi b4))
   injection b5 with w1 b5
   injection b5 with w2 w3
   rw [← w1,← w2,← w3]
   exact SC hE1 rfl hsh hx.1.1 hcl hS0 b3 hInv
 · replace b2:=gi b2
   rw [if_neg (by decide)] at b2
   obtain ⟨⟨e1,C1,y1⟩,b3,b4⟩:=bs b2
   have b5:=sm (pi (pi b4))
   injection b5 with w1 b5
   injection b5 with w2 w3
   rw [← w1,← w2,← w3]
   have e0:S0=xq fs ⟨C.h,C.e,⟨C.a.a,C.a.c,K⟩,C.b,C.g,C.d,C.f,x.c⟩:=by
     rcases hS0 with ⟨h,_⟩|⟨h,_⟩
     · exact h
     · exact absurd h.1 hk3
   rw [e0] at hInv
   exact ih gu F fs (n+1) C.a.b.length _ C1 x y1 y' e1 S' hI hF hKl (fun i v hv=>(hC.vr i v hv).2.1) hE1 rfl hx hfn (by omega) b3 hInv
theorem Od:∀ fu:Nat,TM fu∧U2 fu∧Vf fu∧Vm fu
 | 0=>by
  have h:TM 0:=fun _ _ _ _ _ _ _ _ _ _ _ _ _ _ _ h=>by omega
  exact ⟨h,fun _ _ _ _ _ _ _ _ _ _ _ _ _ _ _ _ _ _ _ _ h=>by omega,fun _ _ _ _ _ _ _ _ _ _ _ _ _ _ _ _ h=>by omega,LX h⟩
 | 1=>by
  have h:TM 1:=fun _ _ _ _ _ _ _ _ _ _ _ _ _ _ _ h=>by omega
  exact ⟨h,fun _ _ _ _ _ _ _ _ _ _ _ _ _ _ _ _ _ _ _ _ h=>by omega,fun _ _ _ _ _ _ _ _ _ _ _ _ _ _ _ _ h=>by omega,LX h⟩
 | fu+2=>by
  have i1:=Od (fu+1)
  have i0:=Od fu
  have h:=Te i1.2.1
  exact ⟨h,Ql i1.2.2.1,Qg i0.2.2.2,LX h⟩
end Go.Proofs.Ytfglbdkfnphjgaa
set_option linter.unusedVariables false
set_option linter.unusedSimpArgs false
namespace Go.Proofs.Ytfglbdkfnphjgaa
open Go.RowKit Go.Fw
def Bn (N:Int) (l:List Int) (V:List jA):List jA:=V.mapIdx fun i x=>if ((i:Nat):Int) ∈ l then ⟨x.a,x.e,x.b,x.f,x.c,x.d,N⟩ else x
theorem Ab {N:Int} {l:List Int} {V:List jA} {i:Nat}:(Bn N l V)[i]?=V[i]?.map fun x=>if ((i:Nat):Int) ∈ l then ⟨x.a,x.e,x.b,x.f,x.c,x.d,N⟩ else x:=by
 unfold Bn
 rw [List.getElem?_mapIdx]
theorem EG {N:Int} {V:List jA}:Bn N [] V=V:=by
 apply List.ext_getElem?
 intro i
 rw [Ab]
 cases V[i]? <;> simp
theorem Dm {N:Int} {l:List Int} {V W:List jA} {u:Int} {x:jA} (h0:0≤u) (hx:V[u.toNat]?=some x) (hW:W=V.set u.toNat ⟨x.a,x.e,x.b,x.f,x.c,x.d,N⟩):Bn N l W=Bn N (u :: l) V:=by
 apply List.ext_getElem?
 intro i
 rw [Ab,Ab,hW]
 have hlt:=kE hx
 by_cases c:i=u.toNat
 · subst c
   rw [List.getElem?_set_self hlt,hx]
   have e:((u.toNat:Nat):Int)=u:=Int.toNat_of_nonneg h0
   simp only [Option.map_some,e,List.mem_cons,true_or,if_true]
   split <;> rfl
 · rw [List.getElem?_set_ne (by omega)]
   have e:((i:Nat):Int) ∈ u :: l ↔ ((i:Nat):Int) ∈ l:=by
    rw [List.mem_cons]
    exact ⟨fun h=>h.resolve_left (by omega),.inr⟩
   simp only [e]
theorem NE {N:Int} {a b:List Int} {V:List jA}:Bn N a (Bn N b V)=Bn N (a ++ b) V:=by
 apply List.ext_getElem?
 intro i
 rw [Ab,Ab,Ab]
 cases V[i]? with
 | none=>rfl
 | some x=>
  simp only [Option.map_some,List.mem_append]
  by_cases h1:((i:Nat):Int) ∈ a <;> by_cases h2:((i:Nat):Int) ∈ b <;> simp [h1,h2]
theorem yg {α:Type} {l:List α} {i:Int} {x:α} (h:ix l i=some x):0≤i∧l[i.toNat]?=some x:=by
 unfold Go.Fw.ix at h
 rcases kF h with ⟨_,h⟩|⟨c,h⟩
 · cases h
 · exact ⟨by omega,h⟩
theorem D8 {α:Type} {l m:List α} {i:Int} {x:α} (h:st l i x=some m):m=l.set i.toNat x:=by
 unfold Go.Fw.st at h
 rcases kF h with ⟨_,h⟩|⟨_,h⟩
 · exact (sm h).symm
 · cases h
theorem Jg {fu:Nat} {C:jD}:∀ (l:List Int) (k:Nat) (V:List jA) (r:Ld (List jA) jD),kJ fu C l k V=some r→r=.go (Bn (wr ((C.a.b.length:Int) - 1)) l V)
 | [],k,V,r,h=>by
  rw [kJ] at h
  rw [← sm h,EG]
 | u :: l,k,V,r,h=>by
  rw [kJ] at h
  obtain ⟨x,h1,h2⟩:=bs h
  obtain ⟨W,h3,h4⟩:=bs h2
  obtain ⟨g0,g1⟩:=yg h1
  rw [Jg l (k+1) W r h4,Dm g0 g1 (D8 h3)]
theorem ME {Vs:List (List jA)} {V:List jA}:ix (Vs ++ [V]) (Vs.length:Int)=some V:=by
 unfold Go.Fw.ix
 rw [if_neg (by omega),Int.toNat_natCast,List.getElem?_append_right (Nat.le_refl _),Nat.sub_self]
 rfl
theorem JQ {Vs Q:List (List jA)} {V W:List jA} (h:st (Vs ++ [V]) (Vs.length:Int) W=some Q):Q=Vs ++ [W]:=by
 rw [D8 h,Int.toNat_natCast,List.set_append_right _ _ (Nat.le_refl _),Nat.sub_self]
 rfl
theorem M4 {gu:Nat} {r1:fV→List jM→Option (List jM × fV)} {r2:fV→jM→Option (jM × fV)} {K:List ky} {Vs:List (List jA)}:∀ (l:List Int) (k:Nat) (V:List jA) (r:Ld (List (List jA)) (List jM × fV)),lI gu r1 r2 (Vs.length:Int) K l k (Vs ++ [V])=some r→r=.go (Vs ++ [Bn (wr ((K.length:Int) - 1)) l V])
 | [],k,V,r,h=>by
  rw [lI] at h
  rw [← sm h,EG]
 | u :: l,k,V,r,h=>by
  rw [lI] at h
  obtain ⟨V',h1,h2⟩:=bs h
  rw [ME] at h1
  rw [← sm h1] at h2
  obtain ⟨x,h3,h4⟩:=bs h2
  obtain ⟨W,h5,h6⟩:=bs h4
  obtain ⟨Q,h7,h8⟩:=bs h6
  rw [JQ h7] at h8
  obtain ⟨g0,g1⟩:=yg h3
  rw [M4 l (k+1) W r h8,Dm g0 g1 (D8 h5)]
def Jy:Nat→List ByteArray→List Int
 | _,[]=>[]
 | k,_ :: r=>(k:Int) :: Jy (k+1) r
theorem OC {gu:Nat} {S:fV} {Vs:List (List jA)} (hf:S.f=(Vs.length:Int)):∀ (l:List ByteArray) (k:Nat) (V:List jA) (r:Ld (List (List jA)) (kC × fV)),lM gu S l k (Vs ++ [V])=some r→r=.go (Vs ++ [Bn (wr ((S.a.b.length:Int) - 1)) (Jy k l) V])
 | [],k,V,r,h=>by
  rw [lM] at h
  rw [← sm h,Jy,EG]
 | u :: l,k,V,r,h=>by
  rw [lM,hf] at h
  obtain ⟨V',h1,h2⟩:=bs h
  rw [ME] at h1
  rw [← sm h1] at h2
  obtain ⟨x,h3,h4⟩:=bs h2
  obtain ⟨W,h5,h6⟩:=bs h4
  obtain ⟨Q,h7,h8⟩:=bs h6
  rw [JQ h7] at h8
  obtain ⟨g0,g1⟩:=yg h3
  rw [OC hf l (k+1) W r h8,Dm g0 g1 (D8 h5),Jy]
theorem MS {fu:Nat} {C:jD} {n:ByteArray}:∀ (l:List Int) (k:Nat) (r:Ld Unit (Int × Bool)),mh fu C n l k=some r→(∃ v x,r=.out (v,true)∧ix C.g v=some x∧x.a=n) ∨ (r=.go ()∧∀ v ∈ l,∀ x,ix C.g v=some x→x.a≠n)
 | [],k,r,h=>by
  rw [mh] at h
  exact .inr ⟨(sm h).symm,fun v hv=>(by cases hv)⟩
 | u :: l,k,r,h=>by
  rw [mh] at h
  obtain ⟨x,h1,h2⟩:=bs h
  rcases kF h2 with ⟨c,h3⟩|⟨c,h3⟩
  · exact .inl ⟨u,x,(sm h3).symm,h1,c⟩
  · rcases MS l (k+1) r h3 with h4 | ⟨h4,h5⟩
    · exact .inl h4
    · refine .inr ⟨h4,fun v hv y hy=>?_⟩
      rcases List.mem_cons.1 hv with hv | hv
      · rw [hv,h1] at hy
        cases hy
        exact c
      · exact h5 v hv y hy
theorem PE {fu:Nat} {C:jD} {n:ByteArray} {v:Int} {b:Bool} (hs:∀ j:Nat,j < C.g.length→(j:Int) ∈ C.d) (h:oN fu C n=some (v,b)):b=true ↔ n ∈ C.g.map (·.a):=by
 unfold oN at h
 obtain ⟨r,h1,h2⟩:=bs h
 rcases MS _ _ r h1 with ⟨w,x,rfl,h3,h4⟩|⟨rfl,h3⟩
 · have h5:=sm (show some (w,true)=some (v,b) from h2)
   injection h5 with _ h5
   refine ⟨fun _=>?_,fun _=>h5.symm⟩
   rw [← h4]
   exact List.mem_map.2 ⟨x,List.mem_of_getElem? (yg h3).2,rfl⟩
 · have h5:=sm (show some ((0:Int),false)=some (v,b) from h2)
   injection h5 with _ h5
   rw [← h5]
   refine ⟨fun z=>(by cases z),fun z=>?_⟩
   obtain ⟨x,hx,hn⟩:=List.mem_map.1 z
   obtain ⟨j,hj⟩:=List.mem_iff_getElem?.1 hx
   refine absurd hn (h3 j (hs j (kE hj)) x ?_)
   unfold Go.Fw.ix
   rw [if_neg (by omega),Int.toNat_natCast,hj]
def EC (C:jD) (u:ByteArray):jD:=⟨C.h,C.e,C.a,C.b,C.g ++ [⟨u,1,-1,1,true,(C.a.b.length:Int),0⟩],C.d ++ [(C.g.length:Int)],C.f,C.c⟩
theorem RA {fu:Nat} {C C':jD} {u:ByteArray} {i:Int} (hl:C.g.length≤24) (h:pR fu C ⟨u,1,-1,1,true,0,0⟩=some (i,C')):C'=EC C u:=by
 unfold pR at h
 obtain ⟨r,hr,h⟩:=bs h
 obtain ⟨q,hq,h⟩:=bs h
 have h:=sm h
 injection h with _ h
 rw [← h,← (pK hq).2,← (pK hr).2,jY,lD (by omega) (by omega)]
 unfold EC
 have e:((C.g.length+1:Nat):Int) - 1=C.g.length:=by omega
 rw [e]
theorem Uu {gu:Nat} {S S':fV} {v:jA} {ln i:Int} (hS:S.e≠0) (h:nR gu S ln v=some (i,S')):S'=S:=by
 unfold nR at h
 obtain ⟨⟨w,b⟩,_,h⟩:=bs h
 obtain ⟨V,_,h⟩:=bs (pi h)
 rw [if_pos hS] at h
 have h:=sm h
 injection h with _ h
 exact h.symm
theorem Pq {gu:Nat} {fs:List kC} {C:jD} (hc:C.f=C.a.c.length) (hl:C.g.length < 24) (hs:∀ j:Nat,j < C.g.length→(j:Int) ∈ C.d) {u:ByteArray} {ln i:Int} {S':fV} (h:nR gu (xq fs C) ln ⟨u,1,-1,1,true,(C.a.b.length:Int),0⟩=some (i,S')):(u ∈ C.g.map (·.a)→S'.e=9∧S'.c=ln)∧(u ∉ C.g.map (·.a)→S'=xq fs (EC C u)):=by
 unfold nR at h
 rw [FW (fu:=0) hc] at h
 obtain ⟨⟨w,b⟩,h1,h⟩:=bs h
 replace h:=pi h
 have hb:=PE hs h1
 rw [show (xq fs C).a.c=C.a.c ++ [C.g] from rfl,show (xq fs C).f=C.f from rfl,Ol hc] at h
 replace h:=BP h
 rw [if_neg (show ¬ (xq fs C).e≠0 from fun z=>z rfl)] at h
 rcases kF h with ⟨c,h⟩|⟨c,h⟩
 · rw [Am] at h
   have h:=sm (BP h)
   injection h with _ h
   exact ⟨fun _=>by rw [← h];exact ⟨rfl,rfl⟩,fun z=>absurd (hb.1 c) z⟩
 rw [if_neg (by omega)] at h
 obtain ⟨r,hr,h⟩:=bs h
 obtain ⟨q,hq,h⟩:=bs h
 obtain ⟨V,hV,h⟩:=bs h
 have h:=sm h
 injection h with _ h
 refine ⟨fun z=>absurd (hb.2 z) c,fun _=>?_⟩
 rw [hc] at hV
 rw [← h,JQ hV,← (pK hq).2,← (pK hr).2]
 rfl
end Go.Proofs.Ytfglbdkfnphjgaa
set_option linter.unusedVariables false
set_option linter.unusedSimpArgs false
namespace Go.Proofs.Ytfglbdkfnphjgaa
open Go.RowKit Go.Fw
theorem OZ {fu:Nat}:∀ (l:List ByteArray) (k:Nat) (s:List (ByteArray × Bool)) (seen:List ByteArray) (r:Ld (List (ByteArray × Bool)) Bool),(∀ u,(qa s u).getD false=true ↔ u ∈ seen)→seen.Nodup→lN fu l k s=some r→(r=.out true∧¬ (seen ++ l).Nodup) ∨ ((∃ s',r=.go s')∧(seen ++ l).Nodup)
 | [],k,s,seen,r,hs,hn,h=>by
  rw [lN] at h
  exact .inr ⟨⟨s,(sm h).symm⟩,by rw [List.append_nil];exact hn⟩
 | u :: l,k,s,seen,r,hs,hn,h=>by
  rw [lN] at h
  have e:seen ++ u :: l=(seen ++ [u]) ++ l:=by rw [List.append_assoc];rfl
  rcases kF h with ⟨c,h⟩|⟨c,h⟩
  · refine .inl ⟨(sm h).symm,fun z=>?_⟩
    have hu:=(hs u).1 c
    have:=(List.nodup_append.1 z).2.2 u hu u (List.mem_cons_self ..)
    exact this rfl
  · have hu:u ∉ seen:=fun z=>c ((hs u).2 z)
    rw [e]
    refine OZ l (k+1) _ (seen ++ [u]) r (fun w=>?_) ?_ h
    · rw [DV,List.mem_append]
      by_cases d:w=u
      · rw [if_pos d]
        exact ⟨fun _=>.inr (by rw [d];exact List.mem_cons_self ..),fun _=>rfl⟩
      · rw [if_neg d,hs w]
        refine ⟨.inl,fun z=>z.resolve_right fun y=>?_⟩
        simp only [List.mem_cons,List.not_mem_nil,or_false] at y
        exact d y
    · refine List.nodup_append.2 ⟨hn,List.nodup_cons.2 ⟨fun z=>(by cases z),List.nodup_nil⟩,fun a ha b hb=>?_⟩
      simp only [List.mem_cons,List.not_mem_nil,or_false] at hb
      rw [hb]
      exact fun z=>hu (z ▸ ha)
theorem Bo {fu:Nat} {l:List ByteArray} {b:Bool} (h:oh fu l=some b):b=true ↔ ¬ l.Nodup:=by
 unfold oh at h
 obtain ⟨r,h1,h2⟩:=bs h
 rcases OZ l 0 [] [] r (fun u=>⟨fun z=>(by cases z),fun z=>(by cases z)⟩) List.nodup_nil h1 with ⟨rfl,h3⟩|⟨⟨s,rfl⟩,h3⟩
 · have e:=sm (show some true=some b from h2)
   exact ⟨fun _=>h3,fun _=>e.symm⟩
 · have e:=sm (show some false=some b from h2)
   rw [← e]
   exact ⟨fun z=>(by cases z),fun z=>absurd h3 z⟩
theorem IE {C:jD} {u:ByteArray} (hs:∀ j:Nat,j < C.g.length→(j:Int) ∈ C.d):∀ j:Nat,j < (EC C u).g.length→(j:Int) ∈ (EC C u).d:=fun j hj=>by
 unfold EC at hj ⊢
 dsimp only at hj ⊢
 rw [jY] at hj
 by_cases c:j < C.g.length
 · exact List.mem_append.2 (.inl (hs j c))
 · obtain rfl:j=C.g.length:=by omega
   exact List.mem_append.2 (.inr (.head _))
theorem Ew {C:jD} {u:ByteArray} {l:List ByteArray}:(EC C u).g.map (·.a) ++ l=C.g.map (·.a) ++ u :: l:=by
 unfold EC
 rw [List.map_append,List.append_assoc]
 rfl
theorem QL {gu:Nat} {fn:kC} {S:fV} (hS:S.e≠0):∀ (l:List ByteArray) (k:Nat) (r:Ld (List Int × List kD × Int × Int × Int × List kC × List (List jA) × List ky) (kC × fV)),lq gu fn l k S.b S.a.a.a S.f S.c S.e S.a.a.b S.a.c S.a.b=some r→r=.go (S.b,S.a.a.a,S.f,S.c,S.e,S.a.a.b,S.a.c,S.a.b)
 | [],k,r,h=>by
  rw [lq] at h
  exact (sm h).symm
 | u :: l,k,r,h=>by
  rw [lq] at h
  obtain ⟨⟨i,S1⟩,h1,h2⟩:=bs h
  replace h2:=pi h2
  rw [Uu (S:=⟨⟨⟨S.a.a.a,S.a.a.b⟩,S.a.c,S.a.b⟩,S.f,S.b,S.c,S.e⟩) hS h1] at h2
  exact QL hS l (k+1) r h2
theorem QD {gu:Nat} {fs:List kC} {fn:kC}:∀ (l:List ByteArray) (k:Nat) (C:jD) (r:Ld (List Int × List kD × Int × Int × Int × List kC × List (List jA) × List ky) (kC × fV)),C.f=C.a.c.length→(∀ j:Nat,j < C.g.length→(j:Int) ∈ C.d)→C.g.length+l.length≤4→(C.g.map (·.a)).Nodup→¬ (C.g.map (·.a) ++ l).Nodup→
  lq gu fn l k C.d C.a.a.a C.f 0 0 fs (C.a.c ++ [C.g]) C.a.b=some r→∃ a1 a2 a3 a6 a7 a8,r=.go (a1,a2,a3,fn.c,9,a6,a7,a8)
 | [],k,C,r,hc,hs,hl,hn,hd,h=>absurd (by rw [List.append_nil];exact hn) hd
 | u :: l,k,C,r,hc,hs,hl,hn,hd,h=>by
  rw [List.length_cons] at hl
  rw [lq] at h
  obtain ⟨⟨i,S1⟩,h1,h2⟩:=bs h
  replace h2:=pi h2
  obtain ⟨z1,z2⟩:=Pq (fs:=fs) hc (by omega) hs h1
  by_cases c:u ∈ C.g.map (·.a)
  · obtain ⟨g1,g2⟩:=z1 c
    have:=QL (S:=S1) (by rw [g1];decide) l (k+1) r h2
    rw [g1,g2] at this
    exact ⟨_,_,_,_,_,_,this⟩
  · rw [z2 c] at h2
    refine QD l (k+1) (EC C u) r hc (IE hs) (by unfold EC;dsimp only;rw [jY];omega) ?_ (by rw [Ew];exact hd) h2
    have e:=Ew (C:=C) (u:=u) (l:=[])
    rw [List.append_nil] at e
    rw [e]
    refine List.nodup_append.2 ⟨hn,List.nodup_cons.2 ⟨fun z=>(by cases z),List.nodup_nil⟩,fun a ha b hb=>?_⟩
    simp only [List.mem_cons,List.not_mem_nil,or_false] at hb
    rw [hb]
    exact fun z=>c (z ▸ ha)
theorem QJ {fu gu:Nat} {fs:List kC} {fn:kC}:∀ (l:List ByteArray) (k k':Nat) (C:jD) (r:Ld (List Int × List jA × Int × Int × List (ByteArray × Int) × List (ByteArray × Int) × List kD × List kC × List (List jA) × List ky × List Int) (Int × jD)) (r':Ld (List Int × List kD × Int × Int × Int × List kC × List (List jA) × List ky) (kC × fV)),C.f=C.a.c.length→(∀ j:Nat,j < C.g.length→(j:Int) ∈ C.d)→C.g.length+l.length≤4→(C.g.map (·.a) ++ l).Nodup→
  lQ fu l k C.d C.g C.f C.c C.h C.e C.a.a.a C.a.a.b C.a.c C.a.b C.b=some r→
  lq gu fn l k' C.d C.a.a.a C.f 0 0 fs (C.a.c ++ [C.g]) C.a.b=some r'→
  ∃ V s,r=.go (s,V,C.f,C.c,C.h,C.e,C.a.a.a,C.a.a.b,C.a.c,C.a.b,C.b)∧r'=.go (s,C.a.a.a,C.f,0,0,fs,C.a.c ++ [V],C.a.b)∧s=C.d ++ Jy C.g.length l
 | [],k,k',C,r,r',hc,hs,hl,hn,h,h'=>by
  rw [lQ] at h
  rw [lq] at h'
  exact ⟨C.g,C.d,(sm h).symm,(sm h').symm,by rw [Jy,List.append_nil]⟩
 | u :: l,k,k',C,r,r',hc,hs,hl,hn,h,h'=>by
  rw [List.length_cons] at hl
  rw [lQ] at h
  rw [lq] at h'
  obtain ⟨⟨i,C1⟩,h1,h2⟩:=bs h
  obtain ⟨⟨i',S1⟩,h3,h4⟩:=bs h'
  replace h2:=pi h2
  replace h4:=pi h4
  have hu:u ∉ C.g.map (·.a):=fun z=>(List.nodup_append.1 hn).2.2 u z u (List.mem_cons_self ..) rfl
  rw [RA (C:=C) (by omega) h1] at h2
  rw [(Pq (fs:=fs) hc (by omega) hs h3).2 hu] at h4
  obtain ⟨V,s,e1,e2,e3⟩:=QJ l (k+1) (k'+1) (EC C u) r r' hc (IE hs) (by unfold EC;dsimp only;rw [jY];omega) (by rw [Ew];exact hn) h2 h4
  refine ⟨V,s,e1,e2,?_⟩
  rw [e3,Jy]
  unfold EC
  dsimp only
  rw [jY,List.append_assoc]
  rfl
end Go.Proofs.Ytfglbdkfnphjgaa
set_option linter.unusedVariables false
set_option linter.unusedSimpArgs false
namespace Go.Proofs.Ytfglbdkfnphjgaa
open Go.RowKit Go.Fw
theorem Ty {gu:Nat} {S:fV}:∀ (l:List ByteArray) (k:Nat) (V:List (List jA)) (o:kC × fV),lM gu S l k V=some (.out o)→False
 | [],k,V,o,h=>by rw [lM] at h;cases h
 | u :: l,k,V,o,h=>by
  rw [lM] at h
  obtain ⟨_,_,h1⟩:=bs h
  obtain ⟨_,_,h2⟩:=bs h1
  obtain ⟨_,_,h3⟩:=bs h2
  obtain ⟨_,_,h4⟩:=bs h3
  exact Ty l (k+1) _ o h4
theorem MC {fu gu:Nat} (hf:10100≤fu) {fs:List kC} {C C':jD} (hP:PI C) {op:List Int} {fn fn':kC} (hfn:SY 5000 fn) (hE:He fs ⟨C.h,C.e,C.a,C.b,[],[],(C.a.c.length:Int),fn.c⟩) {e:Int} {S':fV}
   (h:oW fu C (C.a.c.length:Int) fn=some (e,C')) (h':tF gu ⟨⟨⟨C.a.a.a,fs⟩,C.a.c ++ [[]],C.a.b⟩,(C.a.c.length:Int),op,0,0⟩ fn=some (fn',S')) :
   (e=0→C'.a.a=⟨C.a.a.a,C.a.a.b ++ [fn']⟩∧C'.h=C.h∧C'.e=C.e∧C'.b=C.b∧fn'.a=fn.a∧fn'.b=fn.b∧∃ o2,S'=⟨⟨⟨C.a.a.a,fs⟩,C'.a.c,C'.a.b⟩,(C.a.c.length:Int),o2,0,0⟩)∧(e≠0→S'.e=e∧S'.c=C'.c):=by
 have h200:=hP.ok.1
 unfold oW at h
 unfold tF at h'
 rcases kF h with ⟨c,h1⟩|⟨c,h1⟩
 · rw [if_pos c] at h'
   have h2:=sm h1
   injection h2 with w1 w2
   unfold lh at h'
   rw [if_pos rfl] at h'
   have h3:=sm (BP h')
   injection h3 with _ h3
   rw [← w1,← w2,← h3]
   exact ⟨fun z=>absurd z (by decide),fun _=>⟨rfl,rfl⟩⟩
 rw [if_neg c] at h'
 obtain ⟨b,a1,h2⟩:=bs h1
 have hrep:=Bo a1
 obtain ⟨r',b1,b2⟩:=bs h'
 clear h h1 h'
 rcases kF h2 with ⟨c2,h3⟩|⟨c2,h3⟩
 · obtain ⟨q1,q2,q3,q6,q7,q8,rfl⟩:=QD (gu:=gu) (fs:=fs) (fn:=fn) fn.b 0 ⟨C.h,C.e,C.a,C.b,[],[],(C.a.c.length:Int),fn.c⟩ r' rfl (fun j hj=>by cases hj) (by show 0+fn.b.length≤4;omega) List.nodup_nil (hrep.1 c2) b1
   replace b2:=gi b2
   replace b2:=pi (pi (pi (pi (pi (pi (pi b2))))))
   rw [if_neg (by decide)] at b2
   have h4:=sm h3
   injection h4 with w1 w2
   have h5:=sm b2
   injection h5 with _ h5
   rw [← w1,← w2,← h5]
   exact ⟨fun z=>absurd z (by decide),fun _=>⟨rfl,rfl⟩⟩
 have hnd:fn.b.Nodup:=Decidable.not_not.1 fun z=>c2 (hrep.2 z)
 obtain ⟨r,a2,a3⟩:=bs h3
 clear h2 h3
 have hT:=D5 (AY (fu:=fu) (S:=C.a) (rc:=C.h) (fc:=C.e) (pa:=C.b) (cu:=(C.a.c.length:Int)) h200 (O:=fun _=>False) fn.b 0 ⟨C.h,C.e,C.a,C.b,[],[],(C.a.c.length:Int),fn.c⟩ ⟨Nat.zero_le _,fun v hv=>(by cases hv),Nat.le_refl _,h200,hP.rm,hP.fm,fun x hx=>(by cases hx),fun i x hx=>(by cases hx)⟩ (by show 0+fn.b.length≤4;omega) ⟨rfl,rfl,rfl,rfl,rfl⟩) a2
 obtain ⟨V,s,rfl,rfl,hs⟩:=QJ (fu:=fu) (gu:=gu) (fs:=fs) (fn:=fn) fn.b 0 0 ⟨C.h,C.e,C.a,C.b,[],[],(C.a.c.length:Int),fn.c⟩ r r' rfl (fun j hj=>by cases hj) (by show 0+fn.b.length≤4;omega) hnd a2 b1
 have hs:s=Jy 0 fn.b:=hs
 have hI:CI C.a.b.length ⟨C.h,C.e,C.a,C.b,V,s,(C.a.c.length:Int),fn.c⟩:=hT.1
 have hE1:He fs ⟨C.h,C.e,C.a,C.b,V,s,(C.a.c.length:Int),fn.c⟩:=⟨rfl,hE.hr,hE.rc,hE.fn,hE.pa⟩
 clear a2 b1 hT
 replace a3:=gi a3
 replace a3:=pi (pi (pi (pi (pi (pi (pi (pi (pi (pi a3)))))))))
 replace b2:=gi b2
 replace b2:=pi (pi (pi (pi (pi (pi (pi b2))))))
 rw [if_pos rfl] at b2
 obtain ⟨⟨bo,e1,C2⟩,a4,a5⟩:=bs a3
 replace a5:=pi (pi a5)
 obtain ⟨⟨bo',S1⟩,b3,b4⟩:=bs b2
 replace b4:=pi b4
 obtain ⟨rV,b5,b6⟩:=bs b4
 clear a3 b2 b4
 have hLP:=D5 ((zy fu).1 _ ⟨C.h,C.e,C.a,C.b,V,s,(C.a.c.length:Int),fn.c⟩ fn.f 10 hI (Int.le_refl _) hfn.body hfn.el (by omega)) a4
 have hLP:LP _ ⟨C.h,C.e,C.a,C.b,V,s,(C.a.c.length:Int),fn.c⟩ bo e1 C2:=hLP
 obtain ⟨l1,l2,⟨s2,l3⟩,_⟩:=hLP
 obtain ⟨fu',rfl⟩:∃ f,fu=f+1:=⟨fu - 1,by omega⟩
 obtain _ | gu':=gu
 · cases b3
 change p8 fu' (kY fu') (kw fu') (kV fu') (kU fu') _ fn.f=_ at a4
 unfold p8 at a4
 obtain ⟨rl,a6,a7⟩:=bs a4
 change pz gu' (kR gu') (qc gu') _ fn.f=_ at b3
 unfold pz at b3
 obtain ⟨rl',b7,b8⟩:=bs b3
 clear a4 b3
 rcases (Od fu').2.2.2 gu' _ fs 10 ⟨C.h,C.e,C.a,C.b,V,s,(C.a.c.length:Int),fn.c⟩ fn.f 0 0 [] rl rl' hI (Int.le_refl _) hE1 hfn.el (by omega) a6 b7 with ⟨p,D,rfl,rfl,hcs⟩|⟨p,e2,D,x1,x2,x3,x4,x5,x6,p',rfl,hne,rfl⟩
 · have a8:=sm (show some _=some (bo,e1,C2) from a7)
   injection a8 with w1 a8
   injection a8 with w2 w3
   have hCD:C2=D:=by rw [← w3]
   rw [← w2,if_neg (by simp)] at a5
   obtain ⟨C3,a9,a10⟩:=bs a5
   obtain ⟨ps,a11,a12⟩:=bs a10
   obtain ⟨q1,a13,a14⟩:=bs a12
   obtain ⟨q2,a15,a16⟩:=bs a14
   have a17:=sm a16
   injection a17 with w4 w5
   refine ⟨fun _=>?_,fun z=>absurd w4.symm z⟩
   unfold lC at a9
   obtain ⟨q3,a18,a19⟩:=bs a9
   obtain ⟨rW,a20,a21⟩:=bs a19
   have e3:q3=C2.d:=by
     unfold Go.Fw.sl at a18
     rcases kF a18 with ⟨_,a18⟩|⟨_,a18⟩
     · rw [← sm a18]
       simp
     · cases a18
   rw [Jg _ _ _ _ a20,e3] at a21
   replace a21:=gi a21
   obtain ⟨q4,_,a22⟩:=bs a21
   have a23:=sm a22
   replace b8:=gi b8
   replace b8:=pi (pi (pi (pi (pi (pi (pi (pi b8)))))))
   obtain ⟨q5,b9,b10⟩:=bs b8
   obtain ⟨rU,b11,b12⟩:=bs b10
   have hcur:D.f=(D.a.c.length:Int):=(hE1.cs hcs).hc
   rw [hcur] at b11 b12
   rw [M4 _ _ _ _ b11] at b12
   replace b12:=gi b12
   obtain ⟨q6,_,b13⟩:=bs b12
   obtain ⟨q7,_,b14⟩:=bs b13
   have b15:=sm b14
   injection b15 with w6 w7
   have hsc:D.d=s ++ s2:=by rw [← hCD];exact l3
   have e4:q5=s2:=by
     unfold Go.Fw.sl at b9
     rcases kF b9 with ⟨_,b9⟩|⟨_,b9⟩
     · have b9:=sm b9
       dsimp only at b9
       rw [← b9,hsc,Int.toNat_natCast,List.drop_left']
       · refine List.take_of_length_le ?_
         rw [List.length_append]
         have e9:(xq fs ⟨C.h,C.e,C.a,C.b,V,s,(C.a.c.length:Int),fn.c⟩).b=s:=rfl
         omega
       · rfl
     · cases b9
   rw [← w7] at b5 b6
   dsimp only at b5 b6
   rw [OC rfl _ _ _ _ b5] at b6
   have b16:=sm (show some _=some (fn',S') from b6)
   injection b16 with w8 w9
   have eV:Bn (wr ((D.a.b.length:Int) - 1)) (Jy 0 fn.b) (Bn (wr ((D.a.b.length:Int) - 1)) q5 D.g)=C3.g:=by
     rw [NE,e4,← a23,hCD,hsc,hs]
   have ePs:ps=fn.b:=by
     unfold qM at a11
     obtain ⟨q8,c1,c2⟩:=bs a11
     rw [← sm c2,← (pK c1).2,List.nil_append]
   have ePg:C3.a.a=C.a.a:=by rw [← a23,hCD];exact hcs.pg
   have eVs:C3.a.c=C.a.c:=by rw [← a23,hCD];exact hcs.vs
   have eSt:C3.a.b=D.a.b:=by rw [← a23,hCD]
   have eF:fn'=⟨fn.a,fn.c,fn.b,bo⟩:=by rw [← w8,← w6,← w1]
   refine ⟨?_,?_,?_,?_,by rw [eF],by rw [eF],q7,?_⟩
   · rw [← w5,← (pK a13).2,ePg,eF,ePs]
   · rw [← w5]
     dsimp only
     rw [← a23,hCD]
     exact hcs.rc
   · rw [← w5]
     dsimp only
     rw [← a23,hCD]
     exact hcs.fc
   · rw [← w5]
     dsimp only
     rw [← a23,hCD]
     exact hcs.pa
   · rw [← w9,← w5,← (pK a15).2,eV]
     dsimp only
     rw [eVs,eSt,show D.a.c=C.a.c from hcs.vs,show D.a.a.a=C.a.a.a from by rw [hcs.pg]]
 · have a8:=sm (show some _=some (bo,e1,C2) from a7)
   injection a8 with w1 a8
   injection a8 with w2 w3
   rw [← w2,if_pos hne] at a5
   have a9:=sm a5
   injection a9 with w4 w5
   refine ⟨fun z=>absurd (w4.trans z) hne,fun _=>?_⟩
   replace b8:=gi b8
   replace b8:=pi (pi (pi (pi (pi (pi (pi (pi b8)))))))
   obtain ⟨q5,b9,b10⟩:=bs b8
   obtain ⟨rU,b11,b12⟩:=bs b10
   cases rU with
   | out o=>exact (MH _ _ _ _ b11).elim
   | go U=>
     replace b12:=gi b12
     obtain ⟨q6,_,b13⟩:=bs b12
     obtain ⟨q7,_,b14⟩:=bs b13
     have b15:=sm b14
     injection b15 with w6 w7
     cases rV with
     | out o=>
       exfalso
       exact Ty _ _ _ _ b5
     | go W=>
       replace b6:=gi b6
       have b16:=sm b6
       injection b16 with _ w9
       rw [← w9,← w7,← w4,← w5,← w3]
       exact ⟨rfl,rfl⟩
end Go.Proofs.Ytfglbdkfnphjgaa
