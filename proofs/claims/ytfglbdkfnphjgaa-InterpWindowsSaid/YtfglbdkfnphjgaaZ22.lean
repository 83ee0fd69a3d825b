/- attempt: what it runs may throw. -/
import Derived.Test.YtfglbdkfnphjgaaZ21
import Derived.Test.YtfglbdkfnphjgaaZ5
import Derived.Test.YtfglbdkfnphjgaaLa
set_option linter.unusedVariables false
set_option maxRecDepth 4000
set_option maxHeartbeats 12800000
namespace Go.Proofs.Ytfglbdkfnphjgaa
open Go.RowKit Go.Fw
theorem Q6 {P : Program} {f : Fr} {w : World} {t b : Nat} {ty te : TypeId} {v : Value} (hf : f t = .pointer (some ⟨b, 0, none⟩)) (hu : ∀ ρ : Operand → Value, ρ (.tmp 0) = .pointer (some ⟨b, 0, none⟩) → Yl P ρ (.load ty (.tmp 0)) none 0 "" #[] none w v) {cs : Array Value} (hB : mM w b te cs) : QY P f w (.cell t ty) v := by
 refine ⟨b,te,cs,hf,hB,?_⟩
 have hl:=hu (fun _=>.pointer (some ⟨b,0,none⟩)) rfl
 simp only [Yl,execOp,Instr.loadAt,Instr.sureAddr,Sem.run_bind,Sem.run_pure,Result.andThen_ok] at hl
 cases hq:(loadVar ty ⟨b,0,none⟩).run P w with
 | ok v w'=>rw [hq] at hl;simp at hl;rw [hl.1,hl.2]
 | halt h w'=>rw [hq] at hl;simp at hl
section
variable {P:Program} {N:Fz}
theorem Nq {x y:Code} {Q:Exit→Act→World→Prop} {f:Fr} {w:World} (h:WP P N x ⟨fun f w=>LG P N y Q f w,fun _ _ _=>False,fun _ _=>False,fun _ _ _=>False⟩ f w):LG P N (.seq x y) Q f w:=
 Wo h fun e a w q=>by
  cases e with
  | normal=>obtain ⟨f,h1,h2⟩:=q;exact h2.elim
  | exit i=>obtain ⟨f,h1,h2⟩:=q;exact h2.elim
  | ret=>obtain ⟨f,h1,h2⟩:=q;exact h2.elim
  | panic c=>obtain ⟨f,h1,h2⟩:=q;exact h2.elim
  | _=>exact q.elim
theorem NN (l:List (Nat × Value)) {c:Code} {Q:Exit→Act→World→Prop} {f:Fr} {w:World} (h:Has f l) (k:∀ g,LG P N c Q (Io g l) w):LG P N c Q f w:=by
 rw [← Bw h];exact k f
theorem LY {fn:Func} {d:Deferred} {fv:Fn} {cap:Array Value} {g:FuncId} {args:Array Value} {R:Ending→World→Prop} {f:Fr} {a:Act} {w:World} {M:Fz}
  (hT:d.target=.fn fv cap) (hi:(invoke d.target d.args).run P w=.ok (.enter g args) w) (hc:CallsD P g args .returning w (RD .returning (fun w'=>w'=w) (fun _ _=>False)))
  (h:Reads P fn (fun v w'=>R (.returned v) w') f w) (ha:Ck M f a):Leaves P fn a.tmps R [d] .returning w:=by
 refine ⟨by simp,fv,cap,g,args,hT,hi,?_⟩
 intro c cs hu
 obtain ⟨e,u',w',fr,h1,h2,h3⟩:=hc c cs hu
 refine ⟨e,u',w',fr,?_,h2,h3⟩
 cases e with
 | returned v=>
  obtain ⟨rfl,rfl⟩:=h1
  unfold Reads at h
  obtain ⟨v2,hv,hR⟩:=h a.tmps ha.get
  exact ⟨v2,hv,hR⟩
 | panicked c=>exact h1.2.elim
 | outgrown=>exact h1.elim
theorem zD {fn:Func} {d:Deferred} {fv:Fn} {cap:Array Value} {g:FuncId} {args:Array Value} {R:Ending→World→Prop} {f:Fr} {a:Act} {w:World} {M:Fz} {v:Value} {l:List PanicEntry} {R1:World→Prop} {V1:List PanicEntry→World→Prop}
  (hT:d.target=.fn fv cap) (hi:(invoke d.target d.args).run P w=.ok (.enter g args) w) (hl:∀ e ∈ l,e.goexit=false)
  (hc:CallsD P g args (.panicking (⟨v,false,false⟩ :: l)) w (RD (.panicking (⟨v,true,false⟩ :: l)) R1 V1))
  (h:∀ w',R1 w'→Reads P fn (fun v w'=>R (.returned v) w') f w') (hv:∀ c w',V1 c w'→R (.panicked (c ++ ⟨v,true,false⟩ :: l)) w') (ha:Ck M f a):Leaves P fn a.tmps R [d] (.panicking (⟨v,false,false⟩ :: l)) w:=by
 refine ⟨by simp,fv,cap,g,args,hT,hi,?_⟩
 intro c cs hu
 obtain ⟨e,u',w',fr,h1,h2,h3⟩:=hc c cs hu
 refine ⟨e,u',w',fr,?_,h2,h3⟩
 cases e with
 | returned v1=>
  obtain ⟨rfl,h1⟩:=h1
  have hq:=h w' h1
  unfold Reads at hq
  obtain ⟨v2,hv2,hR⟩:=hq a.tmps ha.get
  have hs:settle (.panicking (⟨v,true,false⟩ :: l))=.returning:=by
   have e:l.dropWhile (!·.goexit)=[]:=by
    clear hc hv h2 hu hq h
    induction l with
    | nil=>rfl
    | cons e l ih=>rw [List.dropWhile_cons,hl e (List.mem_cons_self ..)];exact ih (fun e he=>hl e (List.mem_cons_of_mem _ he))
   unfold settle
   dsimp only
   rw [e]
  show Leaves P fn a.tmps R [] (settle _) w'
  rw [hs]
  exact ⟨v2,hv2,hR⟩
 | panicked c=>
  obtain ⟨rfl,h1⟩:=h1
  exact hv _ _ h1
 | outgrown=>exact h1.elim
end
end Go.Proofs.Ytfglbdkfnphjgaa
set_option linter.unusedVariables false
set_option maxRecDepth 4000
set_option maxHeartbeats 12800000
namespace Go.Proofs.Ytfglbdkfnphjgaa
open Go.RowKit Go.Fw
def CAt (R:Rn) (sm:List uE→Sm):Prop:=∀ {w:World} {A:Nat→Prop} {m:Gc} {ptrs:List Nat} {x:Ao} {s s':Sg} {xs:List Ao} {gs:List uE} {l:List jN} {a:Option Addr} {c:Nat} {p:Pn (Option Int)},
 Qs w A R m ptrs x s xs gs [.l a c l]→JJ (sm gs) s l=some (p,s')→
 Calls Try.prog 123 #[Pt R.rb,Pt x.b,.slice a l.length c] w (RP (fun v w'=>((∃ o,p=.ok o∧v=.tuple #[V (o.getD 0),.bool o.isSome,.bool false]) ∨ (∃ n,p=.Ey n∧v=.tuple #[V n,.bool false,.bool true]))∧Ok w A R m ptrs x s s' w') (fun ch w'=>(∀ n,p≠.Ey n)∧Pk p w A R m ptrs x s s' ch w'))
theorem X3 {P:Program} {ρ:Operand→Value} {pos:String} {af:Array Edge} {w:World} {x:Operand} {fn:Fn} {caps:Array Value} (h:ρ x=.func fn #[] caps) :
  (execOp ρ ⟨none,.defer ⟨.value x,#[],#[]⟩,0,pos,af,none⟩).run P w=.ok (.defer ⟨.fn fn caps,#[]⟩) w:=by
 simp [execOp,resolve,h,Deferred.ofValue]
theorem L9 {R:Rn} {sm:List uE→Sm} (hS:WV R sm):CAt R sm:=by
 intro w A m ptrs x s s' xs gs l a c p hR hm
 obtain ⟨hP,hl,hB,hp,hn⟩:=hR
 have b:=hP.bx
 clear hP
 unfold Ok Pk
 generalize hG:lK (H7 R m ptrs x s)=G at b hl ⊢
 refine Ht Try.func123 rfl ?_
 refine NN [(0,Pt R.rb),(1,Pt x.b),(2,.slice a l.length c)] ⟨rfl,rfl,rfl,trivial⟩ fun av=>?_
 refine Nq (zZ ?_)
 refine tF b (xG rfl) fun w1 b3 b=>?_
 refine tF b (jW mK) fun w2 b6 b=>?_
 refine tF b (jW LD) fun w3 b7 b=>?_
 refine tF b (jW LD) fun w4 b8 b=>?_
 refine go ?_
 refine Nq (zZ ?_)
 refine goB b ?_
 refine tF b (jW mK) fun w5 b9 b=>?_
 refine lq (nR b 0 [V (ptrs.length:Int)] rfl mK rfl rfl) fun w6 b=>?_
 refine go ?_
 replace b:Bx w w6 A G (Zp R b3 b9 b6 b7 b8 ptrs.length (V 0) false false ++ H7 R m ptrs x s) (.l a c l :: tN R m s.hist s.out):=b.arr [4,0,3,2,1,5,6,7,8,9] rfl
 refine NN [(0,Pt R.rb),(1,Pt x.b),(2,.slice a l.length c),(3,Pt b3),(6,Pt b6),(7,Pt b7),(8,Pt b8),(9,Pt b9)] ⟨rfl,rfl,rfl,rfl,rfl,rfl,rfl,rfl,trivial⟩ fun av2=>?_
 refine O6 (V7 (vs := [Pt b3, Pt b9, Pt b6, Pt b7, Pt b8]) rfl) (X3 rfl) ?_  -- ⟨.fn (.func 135) #[Pt b3, Pt b9, Pt b6, Pt b7, Pt b8], #[]⟩) rfl ?_
 refine Tp (Q:=⟨fun _ _=>False,fun _ _ _=>False,fun f w'=>Reads Try.prog Try.f123 (fun v w'=>((∃ o,p=.ok o∧v=.tuple #[V (o.getD 0),.bool o.isSome,.bool false]) ∨ (∃ n,p=.Ey n∧v=.tuple #[V n,.bool false,.bool true]))∧Now w w' A G R ptrs x s') f w',fun f ch w'=>(f 6=Pt b6∧f 7=Pt b7∧f 8=Pt b8)∧Pb p ch∧∃ more m',Bx w w' A G (Zp R b3 b9 b6 b7 b8 ptrs.length (V 0) false false ++ (Mac R m' (ptrs ++ more) s'.hist s'.out ++ [It.act x s'.a])) (.l a c l :: tN R m' s'.hist s'.out)⟩) ?_ ?_
 · refine Iz (zZ ?_)
   refine goB b ?_
   have hr:Qs w6 (Cy w A (pick _ [5,6,7,8,9] ++ pick _ [0,1,2,3,4])) R m ptrs x s xs gs [.l a c l]:=⟨b.pr [5,6,7,8,9] [0,1,2,3,4] [0,1,2,3,4,5,6,7] rfl,Az b hl (fun it hi=>List.mem_append_right _ hi),Nat.le_trans hB b.q9.size,hp,hn⟩
   have hc:=hS hr hm
   clear hr
   refine IZ (pY MZ rfl) hc (fun ch w7 hq=>?_) ?_
   · obtain ⟨hq,more,m4,hK⟩:=hq
     have hb:=b.cn [5,6,7,8,9] [0,1,2,3,4] hK
     exact ⟨⟨rfl,rfl,rfl⟩,hq,more,m4,(hb.arr [5,6,7,8,9,0,1,2,3,4] rfl).dp [6,0,1,2,3,4,5]⟩
   rintro _ w7 ⟨o,rfl,rfl,m4,hK⟩
   replace b:=b.cn [5,6,7,8,9] [0,1,2,3,4] hK
   replace b:=(b.arr [5,6,7,8,9,0,1,2,3,4] rfl).dp [0,1,2,3,4,5]
   refine jR (Gq (.tuple #[V (o.getD 0),.bool o.isSome]) rfl) ?_
   refine go ?_
   refine lq (t_n b 2 [V (o.getD 0)] rfl mK rfl rfl) fun w8 b=>?_
   refine lq (t_n b 3 [.bool o.isSome] rfl LD rfl rfl) fun w9 b=>?_
   refine go ?_
   refine uV (fun u=>mM u b6 3 #[V (o.getD 0)]∧mM u b7 4 #[.bool o.isSome]) (fun _=>True) [] (by kernel_rfl) ?_
   replace b:=b.drew
   refine uF 0 r (fun h=>JK r h.1 r) ⟨b.bk 2 rfl,b.bk 3 rfl⟩ (uF 1 r (fun h=>YM r h.2 r) ⟨b.bk 2 rfl,b.bk 3 rfl⟩ ?_)
   refine hO 2 (os r r (t_n b 2 [V (o.getD 0)] r mK r r) fun w10 b=>⟨sF ⟨b.bk 2 rfl,b.bk 3 rfl⟩,?_⟩)
   refine hO 3 (os r r (t_n b 3 [.bool o.isSome] r LD r r) fun w11 b=>⟨sF ⟨b.bk 2 rfl,b.bk 3 rfl⟩,?_⟩)
   refine hO 4 (os r r (t_n b 4 [.bool false] r LD r r) fun w12 b=>⟨sF ⟨b.bk 2 rfl,b.bk 3 rfl⟩,hD ?_⟩)
   refine go ?_
   refine kS ?_
   refine xK (fn:=Try.f123) rfl (Q6 rfl (fun ρ h=>JK h (b.bk 2 rfl) rfl) (b.bk 2 rfl)) (Q6 rfl (fun ρ h=>YM h (b.bk 3 rfl) rfl) (b.bk 3 rfl)) (Q6 rfl (fun ρ h=>YM h (b.bk 4 rfl) rfl) (b.bk 4 rfl)) ?_
   exact ⟨.inl ⟨o,rfl,rfl⟩,m4,b.arr [5,6,7,8,9] rfl⟩
 · intro e a1 w1 q
   cases e with
   | normal=>obtain ⟨f,h1,h2⟩:=q;exact h2.elim
   | exit i=>obtain ⟨f,h1,h2⟩:=q;exact h2.elim
   | ret=>
     obtain ⟨f,h1,h2⟩:=q
     show Leaves Try.prog Try.f123 a1.tmps _ a1.defers .returning w1
     rw [h1.dfr]
     exact LY rfl rfl (R5 rfl) h2 h1
   | panic ch=>
     obtain ⟨f,h1,⟨hf6,hf7,hf8⟩,hq,more,m',b⟩:=q
     show Leaves Try.prog Try.f123 a1.tmps _ a1.defers (.panicking ch) w1
     rw [h1.dfr]
     have hgo:∀ {t:TypeId} {v:Value} {lc:List PanicEntry},ch=⟨.iface t v,false,false⟩ :: lc→(∀ e ∈ lc,e.goexit=false)→t≠90→(∀ n,p≠.Ey n)→(∀ c2,Xl (.iface t v) c2→Pb p c2)→
       Leaves Try.prog Try.f123 a1.tmps (RP (fun v w'=>((∃ o,p=.ok o∧v=.tuple #[V (o.getD 0),.bool o.isSome,.bool false]) ∨ (∃ n,p=.Ey n∧v=.tuple #[V n,.bool false,.bool true]))∧Now w w' A G R ptrs x s') (fun ch w'=>(∀ n,p≠.Ey n)∧Pb p ch∧Ya w w' A G R ptrs x s')) [⟨.fn (.func 135) #[Pt b3,Pt b9,Pt b6,Pt b7,Pt b8],#[]⟩] (.panicking ch) w1:=fun {t v lc} e1 e2 ht hn hb=>by
      subst e1
      refine zD (R1:=fun _=>False) rfl rfl e2 (RG rfl ht) (fun w' h=>h.elim) (fun c2 w' h=>?_) h1
      obtain ⟨rfl,rfl⟩:=h
      exact ⟨hn,hb _ ⟨_,rfl,fun e he=>by
       rcases List.mem_cons.1 he with rfl | he
       · rfl
       · exact e2 e he⟩,more,m',(b.arr [5,6,7,8,9] rfl).dp [1,2,3,4,5,6,7]⟩
     cases p with
     | ok o=>exact hq.elim
     | Ey n=>
      obtain ⟨lc,rfl,hlc⟩:=hq
      refine zD rfl rfl hlc (Ui (n:=n) b rfl (by omega)) (fun w2 b=>?_) (fun c w' h=>h.elim) h1
      refine xK (fn:=Try.f123) rfl (Q6 hf6 (fun ρ h=>JK h (b.bk 2 rfl) rfl) (b.bk 2 rfl)) (Q6 hf7 (fun ρ h=>YM h (b.bk 3 rfl) rfl) (b.bk 3 rfl)) (Q6 hf8 (fun ρ h=>YM h (b.bk 4 rfl) rfl) (b.bk 4 rfl)) ?_
      exact ⟨.inr ⟨n,rfl,rfl⟩,m',(b.arr [5,6,7,8,9] rfl).dp [1,2,3,4,5,6,7]⟩
     | err e=>obtain ⟨lc,h2,h3⟩:=hq;exact hgo h2 h3 (by decide) (fun n h=>by cases h) (fun _ h=>h)
     | rt=>obtain ⟨u,lc,h2,h3⟩:=hq;exact hgo h2 h3 (by decide) (fun n h=>by cases h) (fun _ h=>⟨u,h⟩)
   | _=>exact q.elim
end Go.Proofs.Ytfglbdkfnphjgaa
set_option linter.unusedVariables false
set_option maxRecDepth 4000
set_option maxHeartbeats 12800000
namespace Go.Proofs.Ytfglbdkfnphjgaa
open Go.RowKit Go.Fw
def Xg (sm:Sm) (s:Sg) (x:jN):Option (Pn (Option Int) × Sg):=(JJ sm s x.d).bind fun (p,s)=>match p with
 | .Ey v=>match ix? s.a.ws x.g with
  | none=>some (.rt,s)
  | some []=>some (.rt,s)
  | some (_ :: r)=>JJ sm { s with a:={ s.a with ws:=s.a.ws.set x.g.toNat (v :: r) } } x.h
 | p=>some (p,s)
theorem Vx:jC Try.prog 123:=⟨_,Try.func123,by kernel_rfl,by kernel_rfl⟩
def CTr (R:Rn) (sm:List uE→Sm):Prop:=∀ {w:World} {A:Nat→Prop} {m:Gc} {ptrs:List Nat} {x:Ao} {s s':Sg} {xs:List Ao} {gs:List uE} {y:jN} {a7:Option Addr} {c7:Nat} {a10:Option Addr} {c10:Nat} {a11:Option Addr} {c11:Nat} {a12:Option Addr} {c12:Nat} {p:Pn (Option Int)},
 Qs w A R m ptrs x s xs gs (dS y a7 c7 a10 c10 a11 c11 a12 c12)→Xg (sm gs) s y=some (p,s')→
 Calls Try.prog 104 #[Pt R.rb,Pt x.b,.agg (cS y a7 c7 a10 c10 a11 c11 a12 c12).toArray] w (RP (fun v w'=>∃ o,p=.ok o∧v=.tuple #[V (o.getD 0),.bool o.isSome]∧Ok w A R m ptrs x s s' w') (Pk p w A R m ptrs x s s'))
theorem VW {R:Rn} {sm:List uE→Sm} (hL:WV R sm) (hA:CAt R sm):CTr R sm:=by
 intro w A m ptrs x s s' xs gs y a7 c7 a10 c10 a11 c11 a12 c12 p hR hm
 obtain ⟨hP,hl,hB,hp,hn⟩:=hR
 have b:=hP.bx
 clear hP
 unfold Ok Pk
 generalize hG:lK (H7 R m ptrs x s)=G at b hl ⊢
 refine vU Try.func104 rfl ?_
 refine lJ [(0,Pt R.rb),(1,Pt x.b),(2,.agg (cS y a7 c7 a10 c10 a11 c11 a12 c12).toArray)] ⟨rfl,rfl,rfl,trivial⟩ fun av=>?_
 unfold Xg at hm
 obtain ⟨⟨q,s1⟩,h1,hm⟩:=bs hm
 refine Iz (zZ ?_)
 refine tF b (xG rfl) fun w1 b5 b=>?_
 refine goB b ?_
 have hr:Qs w1 (Cy w A (pick _ [1,2,3,4,5] ++ pick _ [0])) R m ptrs x s xs gs [.l a11 c11 y.d]:=⟨b.pr [1,2,3,4,5] [0] [2,4,5,6,7,8,9] rfl,Az b hl (fun it hi=>List.mem_cons_of_mem _ hi),Nat.le_trans hB b.q9.size,hp,hn⟩
 have hc:=hA hr h1
 clear hr
 refine IZ (pY Vx rfl) hc (fun ch w2 hq=>?_) ?_
 · obtain ⟨hne,hq,more,m4,hK⟩:=hq
   have hb:=b.cn [1,2,3,4,5] [0] hK
   have hb:=(hb.arr [0,1,2,3,4] rfl).dp [0,1,2,3,4,5]
   cases q with
   | ok o=>exact hq.elim
   | Ey n=>exact (hne n rfl).elim
   | _=>cases hm;exact ⟨hq,more,m4,hb⟩
 clear hc
 rintro _ w2 ⟨(⟨o,rfl,rfl⟩|⟨n,rfl,rfl⟩),m4,hK⟩
 · replace b:=b.cn [1,2,3,4,5] [0] hK
   replace b:=(b.arr [0,1,2,3,4] rfl).dp [0,1,2,3,4,5]
   cases hm
   refine jR (Gq (.tuple #[V (o.getD 0),.bool o.isSome,.bool false]) rfl) ?_
   refine go ?_
   refine kS ?_
   refine qb (fn:=Try.f104) rfl (kW rfl) (kW rfl) ?_
   exact ⟨o,rfl,rfl,m4,b⟩
 · replace b:=b.cn [1,2,3,4,5] [0] hK
   replace b:=(b.arr [5,0,1,2,3,4] rfl).dp [9,0,1,2,3,4,5]
   refine jR (Gq (.tuple #[V n,.bool false,.bool true]) rfl) ?_
   refine go ?_
   refine uV (fun u=>mM u b5 111 (cS y a7 c7 a10 c10 a11 c11 a12 c12).toArray) (fun u=>(It.act x s1.a).p u) [10] (by kernel_rfl) ?_
   replace b:=b.drew
   have m1:mM w2.drew b5 111 (cS y a7 c7 a10 c10 a11 c11 a12 c12).toArray:=b.bk 0 rfl
   have m2:(It.act x s1.a).p w2.drew:=b.at 5 rfl
   refine pL 0 r (vO r) m1 m2 (pL 1 r (xn r) m1 m2 (pL 2 r (Dl r) m1 m2 (tS 11 3 r (fun _ h=>Na r (It.za h) r) (mD m1 m2) (pL 4 r (MV r) m1 m2 (tU 5 r (fun _ h=>JK r h r) (mD m1 m2) (pL 8 r (MQ r) m1 m2 ?_))))))
   dsimp only at hm
   have hb:=(b.arr [1,2,3,4,5] rfl).dp [1,2,3,4,5,6]
   cases hv:ix? s1.a.ws y.g with
   | none=>
     rw [hv] at hm
     cases hm
     refine hO 6 (KT r Try.underlying118 r r (Ai hv) fun u w3 hw f=>⟨⟨u,xH _⟩,[],m4,?_⟩)
     rw [List.append_nil]
     rcases hw with rfl | rfl
     · exact hb
     · exact hb.drew
   | some row=>
   rw [hv] at hm
   obtain ⟨k,hk,hrow⟩:=VE hv
   obtain ⟨r0,hr0,hB0,hA0,hcell⟩:=It.zP m2 hrow
   refine tS 11 6 r (fun _ h=>Kj k hA0 Try.underlying118 Ak r r hk (kU hrow)) (mD m1 m2) ?_
   refine tS 11 7 r (fun _ h=>jM (a:=⟨nM x.A,oU x.A+k * 1,none⟩) Try.underlying22 rfl r (EI h hr0 hrow)) (mD m1 m2) ?_
   cases row with
   | nil=>
     cases hm
     refine hO 9 (KT r Try.underlying22 r r (by simp) fun u w3 hw f=>⟨⟨u,xH _⟩,[],m4,?_⟩)
     rw [List.append_nil]
     rcases hw with rfl | rfl
     · exact hb
     · exact hb.drew
   | cons z row=>
   refine pL 9 r (xIdx 0 Try.underlying22 mK r r r (by simp)) m1 m2 ?_
   refine hO 10 (os r r (JG b 5 rfl hr0 hrow (j:=0) (by simp) r r) fun w3 b=>⟨sy 10 (b.bk 0 rfl),hD ?_⟩)
   clear hb m1 m2 hB0 hcell
   rw [show setW s1.a.ws (k,0) n=s1.a.ws.set y.g.toNat (n :: row) from by rw [hk];simp [setW,List.getD_eq_getElem?_getD,hrow]] at b
   refine go ?_
   refine goB b ?_
   have hr:Qs w3 (Cy w A (pick _ [1,2,3,4,5] ++ pick _ [0])) R m4 ptrs x { s1 with a:={ s1.a with ws:=s1.a.ws.set y.g.toNat (n :: row) } } xs gs [.l a12 c12 y.h]:=⟨b.pr [1,2,3,4,5] [0] [0,1,2,3,4,5,6] rfl,Az b hl (fun it hi=>List.mem_cons_of_mem _ hi),Nat.le_trans hB b.q9.size,hp,hn⟩
   have hc:=hL hr hm
   clear hr
   refine IZ (pY MZ rfl) hc (fun ch w4 hq=>?_) ?_
   · obtain ⟨hq,more,m5,hK⟩:=hq
     have hb:=b.cn [1,2,3,4,5] [0] hK
     exact ⟨hq,more,m5,(hb.arr [0,1,2,3,4] rfl).dp [0,1,2,3,4,5]⟩
   rintro _ w4 ⟨o,rfl,rfl,m5,hK⟩
   replace b:=b.cn [1,2,3,4,5] [0] hK
   replace b:=(b.arr [0,1,2,3,4] rfl).dp [0,1,2,3,4,5]
   refine go ?_
   refine kS ?_
   refine qb (fn:=Try.f104) rfl (kW rfl) (kW rfl) ?_
   exact ⟨o,rfl,rfl,m5,b⟩
end Go.Proofs.Ytfglbdkfnphjgaa
set_option linter.unusedVariables false
set_option maxRecDepth 4000
set_option maxHeartbeats 12800000
namespace Go.Proofs.Ytfglbdkfnphjgaa
open Go.RowKit Go.Fw
theorem CU {ev:jA→Option (Pn Int)} {l:List jA} {s s':Sg} {β:Type} {k:Int→Option (Pn β × Sg)} {p:Pn β} (h:one ev l s k=some (p,s')) :
  ∃ q,Zu ev l=some q∧((∃ n,q=.ok n∧k n=some (p,s')) ∨ ((∀ n,q≠.ok n)∧p=q.up∧s'=s)):=by
 unfold one at h
 cases l with
 | nil=>cases h;exact ⟨.rt,rfl,.inr ⟨fun n e=>(by cases e),rfl,rfl⟩⟩
 | cons x l=>
  obtain ⟨q,hq,h⟩:=bs h
  refine ⟨q,hq,?_⟩
  cases q with
  | ok n=>exact .inl ⟨n,rfl,h⟩
  | _=>cases h;exact .inr ⟨fun n e=>(by cases e),rfl,rfl⟩
theorem JY {ev:jA→Option (Pn Int)} {ws:List (List Int)} {l:List jA} {s s':Sg} {β:Type} {k:Nat × Nat→Option (Pn β × Sg)} {p:Pn β} (h:NT ev ws l s k=some (p,s')) :
  ∃ q,wdA ev ws l=some q∧((∃ n,q=.ok n∧k n=some (p,s')) ∨ ((∀ n,q≠.ok n)∧p=q.up∧s'=s)):=by
 unfold NT at h
 cases l with
 | nil=>cases h;exact ⟨.rt,rfl,.inr ⟨fun n e=>(by cases e),rfl,rfl⟩⟩
 | cons x l=>
  obtain ⟨q,hq,h⟩:=bs h
  refine ⟨q,hq,?_⟩
  cases q with
  | ok n=>exact .inl ⟨n,rfl,h⟩
  | _=>cases h;exact .inr ⟨fun n e=>(by cases e),rfl,rfl⟩
theorem M7 {f:Fr} {d:Nat} {v:Value}:ev (upd f d v) (.tmp d)=v:=by show upd f d v d=v;unfold upd;rw [Nat.beq_refl];rfl
section
variable {N:Fz} {ops:Array Oper} {K:KK} {rest:List Oper} {f:Fr} {w w0:World} {d1 d2 d3:Nat} {ty ty2 ty3:TypeId} {pos pos2 pos3:String} {af af2 af3:Array Edge} {y z u v:Operand} {Z G:Nat→Prop} {L:List It} {D:List Da} {ts:Array TypeId}
theorem Zr {w1:World} (b:Bx w0 w Z G L D) (h:w1=w ∨ w1=w.drew):Bx w0 w1 Z G L D:=by
 rcases h with rfl | rfl
 · exact b
 · exact b.drew
theorem eArg {fu:Nat} (b:Bx w0 w Z G L D) (i j:Nat) {x:Ao} {g:uE} {rb:Nat} {a:Option Addr} {c:Nat} {l:List jA} {q:Pn Int}
  (hi:L[i]?=some (It.act x g)) (hj:D[j]?=some (.l a c l)) (hq:Zu (CF fu g.ws) l=some q) (h1:ev f y=.slice a l.length c) (h2:ev f z=V 0)
  (h3:∀ α β,ev (upd (upd f d1 α) d2 β) u=Pt rb) (h4:∀ α β,ev (upd (upd f d1 α) d2 β) v=Pt x.b)
  (kp:∀ f ch w',Pb q ch→Bx w0 w' Z G L D→K.p f ch w')
  (kn:∀ n w' α β,q=.ok n→Bx w0 w' Z G L D→kQ Try.prog N ops K rest (upd (upd (upd f d1 α) d2 β) d3 (V n)) w') :
  kQ Try.prog N ops K (⟨some d1,.indexAddr 109 y z,ty,pos,af,none⟩ :: ⟨some d2,.load 138 (.tmp d1),ty2,pos2,af2,none⟩ :: ⟨some d3,.call { callee:=.value (.func 102),args:=#[u,v,.tmp d2],argTypes:=ts },ty3,pos3,af3,none⟩ :: rest) f w:=by
 cases l with
 | nil=>
  cases hq
  exact Aj Try.underlying109 h1 h2 (by simp) fun u w2 hw=>kp _ _ _ ⟨u,xH _⟩ (Zr b hw)
 | cons e l=>
  refine TW b j hj (show (e :: l)[0]?=some e from rfl) h1 h2 rfl fun a2 c2 b2=>?_
  have hE:=pY (P:=Try.prog) (ρ:=ev (upd (upd f d1 (.pointer (some ⟨nM a,oU a+0 * 6,none⟩))) d2 (.agg (cE e a2 c2).toArray))) (d:=some d3) (ty:=ty3) (pos:=pos3) (af:=af3) (g:=none) (w:=w) (xs:=[u,v,.tmp d2]) (ts:=ts) Bd rfl
  simp only [List.map,h3,h4,M7] at hE
  have ha:=b2.at i hi
  refine IZ hE (Ho fu (b2.pr [] [] [0] rfl) ha hq) (fun ch w2 hp=>kp _ _ _ hp.1 (b.ext hp.2)) ?_
  rintro _ w2 ⟨n,rfl,rfl,hx⟩
  exact kn n w2 _ _ rfl (b.ext hx)
theorem Ze {fu:Nat} (b:Bx w0 w Z G L D) (i j:Nat) {x:Ao} {g:uE} {rb:Nat} {a:Option Addr} {c:Nat} {l:List jA} {q:Pn (Nat × Nat)}
  (hi:L[i]?=some (It.act x g)) (hj:D[j]?=some (.l a c l)) (hq:wdA (CF fu g.ws) g.ws l=some q) (h1:ev f y=.slice a l.length c) (h2:ev f z=V 0)
  (h3:∀ α β,ev (upd (upd f d1 α) d2 β) u=Pt rb) (h4:∀ α β,ev (upd (upd f d1 α) d2 β) v=Pt x.b)
  (kp:∀ f ch w',Pb q ch→Bx w0 w' Z G L D→K.p f ch w')
  (kn:∀ k o r row w' α β,q=.ok (k,o)→x.R[k]?=some r→g.ws[k]?=some row→o < row.length→Bx w0 w' Z G L D→kQ Try.prog N ops K rest (upd (upd (upd f d1 α) d2 β) d3 (.pointer (some ⟨r,o,none⟩))) w') :
  kQ Try.prog N ops K (⟨some d1,.indexAddr 109 y z,ty,pos,af,none⟩ :: ⟨some d2,.load 138 (.tmp d1),ty2,pos2,af2,none⟩ :: ⟨some d3,.call { callee:=.value (.func 101),args:=#[u,v,.tmp d2],argTypes:=ts },ty3,pos3,af3,none⟩ :: rest) f w:=by
 cases l with
 | nil=>
  cases hq
  exact Aj Try.underlying109 h1 h2 (by simp) fun u w2 hw=>kp _ _ _ ⟨u,xH _⟩ (Zr b hw)
 | cons e l=>
  refine TW b j hj (show (e :: l)[0]?=some e from rfl) h1 h2 rfl fun a2 c2 b2=>?_
  have hE:=pY (P:=Try.prog) (ρ:=ev (upd (upd f d1 (.pointer (some ⟨nM a,oU a+0 * 6,none⟩))) d2 (.agg (cE e a2 c2).toArray))) (d:=some d3) (ty:=ty3) (pos:=pos3) (af:=af3) (g:=none) (w:=w) (xs:=[u,v,.tmp d2]) (ts:=ts) Qu rfl
  simp only [List.map,h3,h4,M7] at hE
  have ha:=b2.at i hi
  refine IZ hE (XI fu (b2.pr [] [] [0] rfl) ha hq) (fun ch w2 hp=>kp _ _ _ hp.1 (b.ext hp.2)) ?_
  rintro _ w2 ⟨k,o,r,row,rfl,hr,hrow,ho,rfl,hx⟩
  exact kn k o r row w2 _ _ rfl hr hrow ho (b.ext hx)
theorem Va {ρ:Operand→Value} {d:Option Nat} {gd:Option (Nat × Bool)} (hL:Bx w0 w Z G L D) (i:Nat) {x:Ao} {g:uE} {k r:Nat} {l:List Int} (hi:L[i]?=some (It.act x g)) (hr:x.R[k]?=some r) (hk:g.ws[k]?=some l) (hy:ρ y=.slice (some ⟨r,0,none⟩) l.length l.length) :
  To Try.prog ρ ⟨d,.call { callee:=.builtin .clear,args:=#[y],argTypes:=#[22] },ty,pos,af,gd⟩ w fun _ w'=>Bx w0 w' Z G (L.set i (It.act x { g with ws:=g.ws.set k (List.replicate l.length 0) })) D:=by
 have h:=hL.at i hi
 obtain ⟨r',hr',hB,_⟩:=It.zP h hk
 rw [hr] at hr'
 obtain rfl:=Option.some.inj hr'
 cases l with
 | nil=>
  refine ⟨.tuple #[],w,?_,?_⟩
  · simp [execOp,resolve,invoke,builtin,Builtin.clear_,run_underlying Try.underlying22,hy]
  · have e:(g.ws.set k (List.replicate ([]:List Int).length 0))=g.ws:=set_self hk
    rw [e]
    have e2:L.set i (It.act x { g with ws:=g.ws })=L:=set_self hi
    rw [e2]
    exact hL
 | cons n l=>
  obtain ⟨q,hi1,hi2,hi3,hi4⟩:=mK
  have hz:(Builtin.zeroCells (V 0).cells (n :: l).length).toList=List.replicate (n :: l).length (V 0):=by
    refine List.eq_replicate_iff.2 ⟨by simp [Builtin.zeroCells,Value.cells],fun v hv=>?_⟩
    simp only [Builtin.zeroCells,Array.toList_map,List.mem_map] at hv
    obtain ⟨i,_,rfl⟩:=hv
    rw [show i % (V 0).cells.size=0 from Nat.mod_one i]
    rfl
  have hst:=run_storeCells_at (P:=Try.prog) r 0 3 (List.replicate (n :: l).length (V 0)) 0 _ w hB (by simp) (fun v hv=>by rw [List.eq_of_mem_replicate hv];rfl)
  have e:((((n :: l).map V).toArray.toList.take (0+0)) ++ List.replicate (n :: l).length (V 0) ++ ((n :: l).map V).toArray.toList.drop (0+0+(List.replicate (n :: l).length (V 0)).length)).toArray=((List.replicate (n :: l).length (0:Int)).map V).toArray:=by
    congr 1
    simp
  rw [e] at hst
  refine ⟨.tuple #[],_,?_,Mf hL i hi (.inr (.inr (List.mem_of_getElem? hr))) _ (ES h hr hk (by simp))⟩
  have hzv:(zeroValue 3).run Try.prog w=.ok (V 0) w:=by simp [zeroValue,typeInfo,hi1,hi2]
  simp only [List.length_cons] at hy hz hst ⊢
  simp [execOp,resolve,invoke,builtin,Builtin.clear_,run_underlying Try.underlying22,hy,hzv,hz,hst]
end
section
variable {N:Fz} {ops:Array Oper} {K:KK} {rest:List Oper} {f:Fr} {w w1:World} {d:Nat} {ty:TypeId} {pos:String} {af:Array Edge} {u1 u2 u3:Operand} {A G:Nat→Prop} {ts:Array TypeId}
 {R:Rn} {m:Gc} {ptrs:List Nat} {x:Ao} {s s':Sg} {xs:List Ao} {gs:List uE} {y:jN} {a7:Option Addr} {c7:Nat} {a10:Option Addr} {c10:Nat} {a11:Option Addr} {c11:Nat} {a12:Option Addr} {c12:Nat} {b5:Nat} {cs:Array Value}
theorem VL {sm:List uE→Sm} (hS:WV R sm) (b:Bx w w1 A G (.box b5 111 cs :: H7 R m ptrs x s) (dS y a7 c7 a10 c10 a11 c11 a12 c12 ++ tN R m s.hist s.out)) (hl:zM w G xs gs) (hB:R.B≤w.heap.size)
   (hp:ptrs=(xs.map (·.b)).reverse ++ [x.b]) (hn:ptrs.length≤20) (j:Nat) {a:Option Addr} {c:Nat} {l:List jN} {p:Pn (Option Int)} (hm:JJ (sm gs) s l=some (p,s'))
   (hD:pick (dS y a7 c7 a10 c10 a11 c11 a12 c12 ++ tN R m s.hist s.out) [j,4,5,6,7,8,9]=[.l a c l] ++ tN R m s.hist s.out)
   (h1:ev f u1=Pt R.rb) (h2:ev f u2=Pt x.b) (h3:ev f u3=.slice a l.length c)
   (kp:∀ f ch w' m' more,Pb p ch→Bx w w' A G (Mac R m' (ptrs ++ more) s'.hist s'.out ++ [It.act x s'.a]) (tN R m' s'.hist s'.out)→K.p f ch w')
   (kn:∀ o w' m',p=.ok o→Bx w w' A G (.box b5 111 cs :: H7 R m' ptrs x s') (dS y a7 c7 a10 c10 a11 c11 a12 c12 ++ tN R m' s'.hist s'.out)→kQ Try.prog N ops K rest (upd f d (.tuple #[V (o.getD 0),.bool o.isSome])) w') :
   kQ Try.prog N ops K (⟨some d,.call { callee:=.value (.func 50),args:=#[u1,u2,u3],argTypes:=ts },ty,pos,af,none⟩ :: rest) f w1:=by
 have hE:=pY (P:=Try.prog) (ρ:=ev f) (d:=some d) (ty:=ty) (pos:=pos) (af:=af) (g:=none) (w:=w1) (xs:=[u1,u2,u3]) (ts:=ts) MZ rfl
 simp only [List.map,h1,h2,h3] at hE
 have hr:Qs w1 (Cy w A (pick _ [1,2,3,4,5] ++ pick _ [0])) R m ptrs x s xs gs [.l a c l]:=⟨by have:=b.pr [1,2,3,4,5] [0] [j,4,5,6,7,8,9] rfl;rw [hD] at this;exact this,Az b hl (fun it hi=>List.mem_cons_of_mem _ hi),Nat.le_trans hB b.q9.size,hp,hn⟩
 have hc:=hS hr hm
 clear hr
 refine IZ hE hc (fun ch w4 hq=>?_) ?_
 · obtain ⟨hq,more,m5,hK⟩:=hq
   have hb:=b.cn [1,2,3,4,5] [0] hK
   exact kp _ _ _ m5 more hq ((hb.arr [0,1,2,3,4] rfl).dp [0,1,2,3,4,5])
 rintro _ w4 ⟨o,rfl,rfl,m5,hK⟩
 replace b:=b.cn [1,2,3,4,5] [0] hK
 exact kn o w4 m5 rfl ((b.arr [5,0,1,2,3,4] rfl).dp [6,7,8,9,0,1,2,3,4,5])
theorem UW:jC Try.prog 100:=⟨_,Try.func100,by kernel_rfl,by kernel_rfl⟩
theorem YD {fv:Nat} (hR:Vk R) (b:Bx w w1 A G (.box b5 111 cs :: H7 R m ptrs x s) (dS y a7 c7 a10 c10 a11 c11 a12 c12 ++ tN R m s.hist s.out)) (hl:zM w G xs gs) (hB:R.B≤w.heap.size)
   (hp:ptrs=(xs.map (·.b)).reverse ++ [x.b]) (hn:ptrs.length≤20) {id:Int} {p:Pn Unit} (hm:event (jO fv R.src) R.st gs s id=some (p,s'))
   (h1:ev f u1=Pt R.rb) (h2:ev f u2=Pt x.b) (h3:ev f u3=V id)
   (kp:∀ f ch w' m',Pb p ch→Bx w w' A G (Mac R m' ptrs s'.hist s'.out ++ [It.act x s'.a]) (tN R m' s'.hist s'.out)→K.p f ch w')
   (kn:∀ w' m',p=.ok ()→Bx w w' A G (.box b5 111 cs :: H7 R m' ptrs x s') (dS y a7 c7 a10 c10 a11 c11 a12 c12 ++ tN R m' s'.hist s'.out)→kQ Try.prog N ops K rest (upd f d (.tuple #[])) w') :
   kQ Try.prog N ops K (⟨some d,.call { callee:=.value (.func 100),args:=#[u1,u2,u3],argTypes:=ts },ty,pos,af,none⟩ :: rest) f w1:=by
 have hE:=pY (P:=Try.prog) (ρ:=ev f) (d:=some d) (ty:=ty) (pos:=pos) (af:=af) (g:=none) (w:=w1) (xs:=[u1,u2,u3]) (ts:=ts) UW rfl
 simp only [List.map,h1,h2,h3] at hE
 have hc:=Pe (b.pr [1,2,3,4,5] [0] [4,5,6,7,8,9] rfl) (Az b hl (fun it hi=>List.mem_cons_of_mem _ hi)) (Nat.le_trans hB b.q9.size) hp hn hR.st hR.mo hm
 refine IZ hE hc (fun ch w4 hq=>?_) ?_
 · obtain ⟨hq,m5,hK⟩:=hq
   have hb:=b.cn [1,2,3,4,5] [0] hK
   exact kp _ _ _ m5 hq ((hb.arr [0,1,2,3,4] rfl).dp [0,1,2,3,4,5])
 rintro _ w4 ⟨rfl,⟨⟨⟩,rfl⟩,m5,hK⟩
 replace b:=b.cn [1,2,3,4,5] [0] hK
 exact kn w4 m5 rfl ((b.arr [5,0,1,2,3,4] rfl).dp [6,7,8,9,0,1,2,3,4,5])
end
end Go.Proofs.Ytfglbdkfnphjgaa
set_option linter.unusedVariables false
set_option maxRecDepth 4000
set_option maxHeartbeats 12800000
namespace Go.Proofs.Ytfglbdkfnphjgaa
open Go.RowKit Go.Fw
theorem Pq:jC Try.prog 39:=⟨_,Try.func39,by kernel_rfl,by kernel_rfl⟩
theorem Wx:jC Try.prog 104:=⟨_,Try.func104,by kernel_rfl,by kernel_rfl⟩
theorem RP.mono {P:Program} {g:FuncId} {args:Array Value} {w:World} {R R':Value→World→Prop} {V V':List PanicEntry→World→Prop} (h:Calls P g args w (RP R V)) (k:∀ v w,R v w→R' v w) (kv:∀ c w,V c w→V' c w):Calls P g args w (RP R' V'):=
 h.mono fun e w he=>by
  cases e with
  | returned v=>exact k v w he
  | panicked c=>exact kv c w he
  | outgrown=>exact he
section
variable {w w1:World} {A G:Nat→Prop} {R:Rn} {m:Gc} {ptrs:List Nat} {x:Ao} {s s':Sg} {xs:List Ao} {gs:List uE} {b5:Nat} {cs:Array Value} {D:List Da}
theorem cVal {fu:Nat} {p:Pn (List Int)} {l:List jA} {a:Option Addr} {c:Nat} (b:Bx w w1 A G (.box b5 111 cs :: H7 R m ptrs x s) D) (j:Nat) (hj:pick D [j]=[.l a c l]) (hm:IX (CF fu s.a.ws) l []=some p) :
  Calls Try.prog 103 #[Pt R.rb,Pt x.b,.slice a l.length c] w1 (RP (fun v w'=>∃ ns A1 c1,p=.ok ns∧v=.slice A1 ns.length c1∧Bx w w' A G (.box b5 111 cs :: H7 R m ptrs x s) (.l A1 c1 ns :: D)) (fun ch w'=>Pb p ch∧Bx w w' A G (.box b5 111 cs :: H7 R m ptrs x s) D)):=by
 have hP:=b.pr [] [0,1,2,3,4,5] [j] rfl
 rw [hj] at hP
 refine RP.mono (Xt fu hP (b.at 5 rfl) hm) (fun v w' hq=>?_) fun ch w' hq=>⟨hq.1,b.ext hq.2⟩
 obtain ⟨ns,A1,c1,h1,h2,hK⟩:=hq
 exact ⟨ns,A1,c1,h1,h2,b.cn [] [0,1,2,3,4,5] hK⟩
theorem YN {sm:List uE→Sm} (hC:Zq R sm) {p:Pn Int} {f:Int} {args:List Int} {h:List kI} {o:List Int} {a:Option Addr} {c:Nat} {y:jN} {a7:Option Addr} {c7:Nat} {a10:Option Addr} {c10:Nat} {a11:Option Addr} {c11:Nat} {a12:Option Addr} {c12:Nat}
   (b:Bx w w1 A G (.box b5 111 cs :: H7 R m ptrs x s) (.l a c args :: (dS y a7 c7 a10 c10 a11 c11 a12 c12 ++ tN R m s.hist s.out))) (hl:zM w G xs gs) (hB:R.B≤w.heap.size)
   (hp:ptrs=(xs.map (·.b)).reverse ++ [x.b]) (hn:ptrs.length≤20) (hm:Ef sm R.src (s.a :: gs) f args s.hist s.out=some (p,h,o)) :
   Calls Try.prog 39 #[Pt R.rb,V f,.slice a args.length c] w1 (RP (fun v w'=>∃ n m',p=.ok n∧v=V n∧Bx w w' A G (.box b5 111 cs :: H7 R m' ptrs x ⟨s.a,h,o⟩) (dS y a7 c7 a10 c10 a11 c11 a12 c12 ++ tN R m' h o))
    (fun ch w'=>Pb p ch∧∃ more m',Bx w w' A G (Mac R m' (ptrs ++ more) h o ++ [It.act x s.a]) (tN R m' h o))):=by
 have hP:=b.pr [1,2,3,4] [0,5] [0,5,6,7,8,9,10] rfl
 have hl1:zM w1 (lK (Mac R m ptrs s.hist s.out)) (x :: xs) (s.a :: gs):=by
   refine ⟨⟨b.at 5 rfl,fun k hF ⟨it,hi,hk⟩=>?_⟩,Az b hl fun it hi=>List.mem_cons_of_mem _ (List.mem_append_left _ hi)⟩
   obtain ⟨i,hi⟩:=List.getElem?_of_mem hi
   have hlt:=kU hi
   have h4:i < 4:=hlt
   refine b.apart (i:=5) (j:=i+1) (by omega) (x:=It.act x s.a) (y:=it) rfl ?_ k hF hk
   rw [List.getElem?_cons_succ,List.getElem?_append_left hlt]
   exact hi
 refine RP.mono (hC hP hl1 (Nat.le_trans hB b.q9.size) (by rw [hp,List.map_cons,List.reverse_cons]) hn hm) (fun v w' hq=>?_) fun ch w' hq=>?_
 · obtain ⟨n,h1,h2,m',hK⟩:=hq
   have hb:=b.cn [1,2,3,4] [0,5] hK
   exact ⟨n,m',h1,h2,(hb.arr [4,0,1,2,3,5] rfl).dp [7,8,9,10,0,1,2,3,4,5]⟩
 · obtain ⟨h1,more,m',hK⟩:=hq
   have hb:=b.cn [1,2,3,4] [0,5] hK
   exact ⟨h1,more,m',(hb.arr [0,1,2,3,5] rfl).dp [0,1,2,3,4,5]⟩
end
end Go.Proofs.Ytfglbdkfnphjgaa
set_option linter.unusedVariables false
set_option maxRecDepth 4000
set_option maxHeartbeats 12800000
namespace Go.Proofs.Ytfglbdkfnphjgaa
open Go.RowKit Go.Fw
theorem Js {fu fv:Nat} {R:Rn} (hR:Vk R) (ih:Zn R (stM (jO fv R.src) R.src R.st fu)):Zn R (stM (jO fv R.src) R.src R.st (fu+1)):=by
 have hLs:WV R (stM (jO fv R.src) R.src R.st fu):=NC ih
 have hCl:Zq R (stM (jO fv R.src) R.src R.st fu):=NK hLs
 have hTr:CTr R (stM (jO fv R.src) R.src R.st fu):=VW hLs (L9 hLs)
 intro w A m ptrs x s s' xs gs y a7 c7 a10 c10 a11 c11 a12 c12 p hr0 hm
 obtain ⟨hP,hl,hB,hp,hn⟩:=hr0
 have b:=hP.bx
 clear hP
 unfold Ok Pk
 generalize hG:lK (H7 R m ptrs x s)=G at b hl ⊢
 refine vU Try.func75 rfl ?_
 refine lJ [(0,Pt R.rb),(1,Pt x.b),(2,.agg (cS y a7 c7 a10 c10 a11 c11 a12 c12).toArray)] ⟨rfl,rfl,rfl,trivial⟩ fun av=>?_
 rw [stM] at hm
 obtain ⟨⟨pe,s1⟩,he,hm⟩:=bs hm
 refine Iz (zZ ?_)
 refine tF b (xG rfl) fun w1 b5 b=>?_
 refine goB b ?_
 refine YD hR b hl hB hp hn he rfl rfl rfl (fun f ch w' m' hq hb=>?_) (fun w2 m1 hpe b=>?_)
 · cases pe with
   | ok u=>exact hq.elim
   | _=>cases hm;exact ⟨hq,[],m',by rw [List.append_nil];exact hb⟩
 subst hpe
 dsimp only at hm
 clear he
 refine goB b ?_
 refine lJ [(0,Pt R.rb),(1,Pt x.b),(5,Pt b5),(18,V y.e),(19,.bool (decide (y.e=1)))] ⟨rfl,rfl,rfl,rfl,rfl,trivial⟩ fun av=>?_
 refine qm rfl (fun h=>?_) (fun h=>?_)
 · rw [if_pos h] at hm
   refine goB b ?_
   refine uV (fun u=>mM u b5 111 (cS y a7 c7 a10 c10 a11 c11 a12 c12).toArray) (fun u=>(It.act x s1.a).p u) [8] (by kernel_rfl) ?_
   replace b:=b.drew
   have q1:mM w2.drew b5 111 (cS y a7 c7 a10 c10 a11 c11 a12 c12).toArray:=b.bk 0 rfl
   have q2:(It.act x s1.a).p w2.drew:=b.at 5 rfl
   refine pL 0 r (vO r) q1 q2 (pL 1 r (xn r) q1 q2 (pL 2 r (Dl r) q1 q2 (tS 9 3 r (fun _ h=>Na r (It.za h) r) (mD q1 q2) (pL 4 r (MV r) q1 q2 (tU 5 r (fun _ h=>JK r h r) (mD q1 q2) ?_)))))
   cases hv:ix? s1.a.ws y.g with
   | none=>
     rw [hv] at hm
     cases hm
     refine hO 6 (KT r Try.underlying118 r r (Ai hv) fun u w3 hw f=>⟨⟨u,xH _⟩,[],m1,?_⟩)
     rw [List.append_nil]
     exact Zr ((b.arr [1,2,3,4,5] rfl).dp [4,5,6,7,8,9]) hw
   | some row=>
   rw [hv] at hm
   obtain ⟨k,hk,hrow⟩:=VE hv
   obtain ⟨r0,hr0,hB0,hA0,hcell⟩:=It.zP q2 hrow
   refine tS 9 6 r (fun _ h=>Kj k hA0 Try.underlying118 Ak r r hk (kU hrow)) (mD q1 q2) ?_
   refine tS 9 7 r (fun _ h=>jM (a:=⟨nM x.A,oU x.A+k * 1,none⟩) Try.underlying22 rfl r (EI h hr0 hrow)) (mD q1 q2) ?_
   refine hO 8 (oo r r (Va b 5 r hr0 hrow r) ?_)
   rintro _ w3 b
   refine ⟨sy 8 (b.bk 0 rfl),hD ?_⟩
   cases hm
   have hkn:k=y.g.toNat:=by omega
   subst hkn
   refine go ?_
   refine kS ?_
   refine qb (fn:=Try.f75) rfl (kW rfl) (kW rfl) ?_
   exact ⟨none,rfl,rfl,m1,(b.arr [1,2,3,4,5] rfl).dp [4,5,6,7,8,9]⟩
 rw [if_neg h] at hm
 refine goB b ?_
 refine qm rfl (fun h=>?_) (fun h=>?_)
 · rw [if_pos h] at hm
   obtain ⟨q,hq,hm⟩:=JY hm
   refine goB b ?_
   refine Ze b 5 0 rfl rfl hq rfl rfl (fun _ _=>rfl) (fun _ _=>rfl) (fun f ch w' hb b=>?_) (fun k o r0 row w3 α β hqk hr0 hrow ho b=>?_)
   · rcases hm with ⟨n,rfl,_⟩|⟨_,rfl,rfl⟩
     · exact hb.elim
     · exact ⟨hb.up,[],m1,by rw [List.append_nil];exact (b.arr [1,2,3,4,5] rfl).dp [4,5,6,7,8,9]⟩
   subst hqk
   rcases hm with ⟨n,hn1,hm⟩|⟨h1,_⟩
   rotate_left
   · exact (h1 _ rfl).elim
   cases hn1
   obtain ⟨q,hq,hm⟩:=CU hm
   refine goB b ?_
   refine eArg b 5 1 rfl rfl hq rfl rfl (fun _ _=>rfl) (fun _ _=>rfl) (fun f ch w' hb b=>?_) (fun n w4 α β hqn b=>?_)
   · rcases hm with ⟨n,rfl,_⟩|⟨_,rfl,rfl⟩
     · exact hb.elim
     · exact ⟨hb.up,[],m1,by rw [List.append_nil];exact (b.arr [1,2,3,4,5] rfl).dp [4,5,6,7,8,9]⟩
   subst hqn
   rcases hm with ⟨n,hn1,hm⟩|⟨h1,_⟩
   rotate_left
   · exact (h1 _ rfl).elim
   cases hn1
   cases hm
   refine goB b ?_
   refine lq (JG b 5 rfl hr0 hrow ho rfl rfl) fun w5 b=>?_
   refine go ?_
   refine kS ?_
   refine qb (fn:=Try.f75) rfl (kW rfl) (kW rfl) ?_
   exact ⟨none,rfl,rfl,m1,(b.arr [1,2,3,4,5] rfl).dp [4,5,6,7,8,9]⟩
 rw [if_neg h] at hm
 refine goB b ?_
 refine qm rfl (fun h=>?_) (fun h=>?_)
 · rw [if_pos h] at hm
   unfold F7 at hm
   obtain ⟨q,hq,hm⟩:=bs hm
   refine goB b ?_
   refine uV (fun u=>mM u b5 111 (cS y a7 c7 a10 c10 a11 c11 a12 c12).toArray) (fun _=>True) [] (by kernel_rfl) ?_
   replace b:=b.drew
   have q1:mM w2.drew b5 111 (cS y a7 c7 a10 c10 a11 c11 a12 c12).toArray:=b.bk 0 rfl
   refine pF 0 r (vO r) q1 (pF 1 r (NM r) q1 (uF 2 r (fun h=>JK r h r) q1 (pF 3 r (vO r) q1 (pF 4 r (vO r) q1 (pF 5 r (CR r) q1 (uF 6 r (fun h=>M4 r h r) q1 ?_))))))
   refine hO 7 (QC r r (pY PW rfl) (cVal b 1 rfl hq) (fun ch w3 hb f=>?_) ?_)
   · obtain ⟨hb,b⟩:=hb
     cases q with
     | ok l=>exact hb.elim
     | _=>cases hm;exact ⟨hb,[],m1,by rw [List.append_nil];exact (b.arr [1,2,3,4,5] rfl).dp [4,5,6,7,8,9]⟩
   rintro _ w3 ⟨ns,A1,c1,rfl,rfl,b⟩
   dsimp only at hm
   obtain ⟨⟨q,h1,o1⟩,hq2,hm⟩:=bs hm
   refine ⟨sF (b.bk 0 rfl),?_⟩
   refine hO 8 (QC r r (pY Pq rfl) (YN hCl b hl hB hp hn hq2) (fun ch w4 hb f=>?_) ?_)
   · obtain ⟨hb,more,m5,b⟩:=hb
     cases q with
     | ok l=>exact hb.elim
     | _=>cases hm;exact ⟨hb,more,m5,b⟩
   rintro _ w4 ⟨n,m5,rfl,rfl,b⟩
   refine ⟨sF (b.bk 0 rfl),pF 9 r (QI r) (b.bk 0 rfl) (hD ?_)⟩
   dsimp only at hm
   refine goB b ?_
   refine qm rfl (fun h0=>?_) (fun h0=>?_)
   · rw [if_neg (by omega)] at hm
     obtain ⟨q,hq,hm⟩:=JY hm
     refine goB b ?_
     refine Ze b 5 0 rfl rfl hq rfl rfl (fun _ _=>rfl) (fun _ _=>rfl) (fun f ch w' hb b=>?_) (fun k o r0 row w5 α β hqk hr0 hrow ho b=>?_)
     · rcases hm with ⟨n,rfl,_⟩|⟨_,rfl,rfl⟩
       · exact hb.elim
       · exact ⟨hb.up,[],m5,by rw [List.append_nil];exact (b.arr [1,2,3,4,5] rfl).dp [4,5,6,7,8,9]⟩
     subst hqk
     rcases hm with ⟨n,hn1,hm⟩|⟨h1,_⟩
     rotate_left
     · exact (h1 _ rfl).elim
     cases hn1
     cases hm
     refine goB b ?_
     refine lq (JG b 5 rfl hr0 hrow ho rfl rfl) fun w5 b=>?_
     refine go ?_
     refine kS ?_
     refine qb (fn:=Try.f75) rfl (kW rfl) (kW rfl) ?_
     exact ⟨none,rfl,rfl,m5,(b.arr [1,2,3,4,5] rfl).dp [4,5,6,7,8,9]⟩
   · rw [if_pos (by omega)] at hm
     cases hm
     refine go ?_
     refine kS ?_
     refine qb (fn:=Try.f75) rfl (kW rfl) (kW rfl) ?_
     exact ⟨none,rfl,rfl,m5,(b.arr [1,2,3,4,5] rfl).dp [4,5,6,7,8,9]⟩
 rw [if_neg h] at hm
 refine goB b ?_
 refine qm rfl (fun h=>?_) (fun h=>?_)
 · rw [if_pos h] at hm
   obtain ⟨q,hq,hm⟩:=CU hm
   refine goB b ?_
   refine eArg b 5 1 rfl rfl hq rfl rfl (fun _ _=>rfl) (fun _ _=>rfl) (fun f ch w' hb b=>?_) (fun n w4 α β hqn b=>?_)
   · rcases hm with ⟨n,rfl,_⟩|⟨_,rfl,rfl⟩
     · exact hb.elim
     · exact ⟨hb.up,[],m1,by rw [List.append_nil];exact (b.arr [1,2,3,4,5] rfl).dp [4,5,6,7,8,9]⟩
   subst hqn
   rcases hm with ⟨n,hn1,hm⟩|⟨h1,_⟩
   rotate_left
   · exact (h1 _ rfl).elim
   cases hn1
   refine goB b ?_
   refine qm rfl (fun h0=>?_) (fun h0=>?_)
   · rw [if_pos h0] at hm
     refine goB b ?_
     refine VL hLs b hl hB hp hn 2 hm rfl rfl rfl rfl (fun f ch w' m' more hb b=>⟨hb,more,m',b⟩) (fun o w5 m5 hpo b=>?_)
     refine goB b ?_
     refine kS ?_
     refine qb (fn:=Try.f75) rfl (kW rfl) (kW rfl) ?_
     exact ⟨o,hpo,rfl,m5,(b.arr [1,2,3,4,5] rfl).dp [4,5,6,7,8,9]⟩
   · rw [if_neg h0] at hm
     refine goB b ?_
     refine VL hLs b hl hB hp hn 3 hm rfl rfl rfl rfl (fun f ch w' m' more hb b=>⟨hb,more,m',b⟩) (fun o w5 m5 hpo b=>?_)
     refine goB b ?_
     refine kS ?_
     refine qb (fn:=Try.f75) rfl (kW rfl) (kW rfl) ?_
     exact ⟨o,hpo,rfl,m5,(b.arr [1,2,3,4,5] rfl).dp [4,5,6,7,8,9]⟩
 rw [if_neg h] at hm
 refine goB b ?_
 refine qm rfl (fun h=>?_) (fun h=>?_)
 · rw [if_pos h] at hm
   refine goB b ?_
   refine kK (fun aw f w'=>∃ (s2:Sg) (m2:Gc),Has f [(0,Pt R.rb),(1,Pt x.b),(5,Pt b5)]∧
       Bx w w' A G (.box b5 111 (cS y a7 c7 a10 c10 a11 c11 a12 c12).toArray :: H7 R m2 ptrs x s2) (dS y a7 c7 a10 c10 a11 c11 a12 c12 ++ tN R m2 s2.hist s2.out)∧
       WX (fun s=>Zu (CF fu s.a.ws) y.a) (fun s=>JJ (stM (jO fv R.src) R.src R.st fu gs) s y.d) (fun s=>event (jO fv R.src) R.st gs s y.n) aw s2=some (p,s'))
     fu ⟨s1,m1,⟨rfl,rfl,rfl,trivial⟩,b,hm⟩ ?_
   clear b hm
   rintro aw f w3 ⟨s2,m2,hf,b,hm⟩ J hJ
   obtain ⟨av,rfl⟩:=gP _ _ hf
   clear hf
   cases aw with
   | zero=>cases hm
   | succ aw=>
   rw [WX] at hm
   obtain ⟨q,hq,hm⟩:=bs hm
   refine goB b ?_
   refine eArg b 5 1 rfl rfl hq rfl rfl (fun _ _=>rfl) (fun _ _=>rfl) (fun f ch w' hb b=>?_) (fun n w4 α β hqn b=>?_)
   · cases q with
     | ok n=>exact hb.elim
     | _=>cases hm;exact ⟨hb,[],m2,by rw [List.append_nil];exact (b.arr [1,2,3,4,5] rfl).dp [4,5,6,7,8,9]⟩
   subst hqn
   dsimp only at hm
   refine goB b ?_
   refine qm rfl (fun h0=>?_) (fun h0=>?_)
   · rw [if_neg h0] at hm
     obtain ⟨⟨q,s3⟩,hq,hm⟩:=bs hm
     refine goB b ?_
     refine VL hLs b hl hB hp hn 2 hq rfl rfl rfl rfl (fun f ch w' m' more hb b=>?_) (fun o w5 m5 hpo b=>?_)
     · cases q with
       | ok n=>exact hb.elim
       | _=>cases hm;exact ⟨hb,more,m',b⟩
     subst hpo
     cases o with
     | none=>
       dsimp only at hm
       refine jR (Gq (.tuple #[V 0,.bool false]) rfl) ?_
       obtain ⟨⟨q,s4⟩,hq,hm⟩:=bs hm
       refine goB b ?_
       refine YD hR b hl hB hp hn hq rfl rfl rfl (fun f ch w' m' hb b=>?_) (fun w6 m6 hpe b=>?_)
       · cases q with
         | ok u=>exact hb.elim
         | _=>cases hm;exact ⟨hb,[],m',by rw [List.append_nil];exact b⟩
       subst hpe
       dsimp only at hm
       refine go ?_
       exact hJ aw _ _ (by omega) ⟨s4,m6,⟨rfl,rfl,rfl,trivial⟩,b,hm⟩
     | some v=>
       cases hm
       refine jR (Gq (.tuple #[V v,.bool true]) rfl) ?_
       refine go ?_
       refine kS ?_
       refine qb (fn:=Try.f75) rfl (kW rfl) (kW rfl) ?_
       exact ⟨some v,rfl,rfl,m5,(b.arr [1,2,3,4,5] rfl).dp [4,5,6,7,8,9]⟩
   · have h0:n=0:=Decidable.not_not.1 h0
     rw [if_pos h0] at hm
     cases hm
     refine go ?_
     refine uJ ?_
     refine go ?_
     refine kS ?_
     refine qb (fn:=Try.f75) rfl (kW rfl) (kW rfl) ?_
     exact ⟨none,rfl,rfl,m2,(b.arr [1,2,3,4,5] rfl).dp [4,5,6,7,8,9]⟩
 rw [if_neg h] at hm
 refine goB b ?_
 refine qm rfl (fun h=>?_) (fun h=>?_)
 · rw [if_pos h] at hm
   refine goB b ?_
   refine jR (IJ rfl rfl) ?_
   refine go ?_
   refine qm (p:=y.k≠be) rfl (fun hf=>?_) (fun hf=>?_)
   · rw [if_pos hf] at hm
     unfold F7 at hm
     obtain ⟨q,hq,hm⟩:=bs hm
     refine goB b ?_
     refine uV (fun u=>mM u b5 111 (cS y a7 c7 a10 c10 a11 c11 a12 c12).toArray) (fun _=>True) [] (by kernel_rfl) ?_
     replace b:=b.drew
     have q1:mM w2.drew b5 111 (cS y a7 c7 a10 c10 a11 c11 a12 c12).toArray:=b.bk 0 rfl
     refine pF 0 r (vO r) q1 (pF 1 r (NM r) q1 (uF 2 r (fun h=>JK r h r) q1 (pF 3 r (vO r) q1 (pF 4 r (vO r) q1 (pF 5 r (CR r) q1 (uF 6 r (fun h=>M4 r h r) q1 ?_))))))
     refine hO 7 (QC r r (pY PW rfl) (cVal b 1 rfl hq) (fun ch w3 hb f=>?_) ?_)
     · obtain ⟨hb,b⟩:=hb
       cases q with
       | ok l=>exact hb.elim
       | _=>cases hm;exact ⟨hb,[],m1,by rw [List.append_nil];exact (b.arr [1,2,3,4,5] rfl).dp [4,5,6,7,8,9]⟩
     rintro _ w3 ⟨ns,A1,c1,rfl,rfl,b⟩
     dsimp only at hm
     obtain ⟨⟨q,h1,o1⟩,hq2,hm⟩:=bs hm
     refine ⟨sF (b.bk 0 rfl),?_⟩
     refine hO 8 (QC r r (pY Pq rfl) (YN hCl b hl hB hp hn hq2) (fun ch w4 hb f=>?_) ?_)
     · obtain ⟨hb,more,m5,b⟩:=hb
       cases q with
       | ok l=>exact hb.elim
       | _=>cases hm;exact ⟨hb,more,m5,b⟩
     rintro _ w4 ⟨n,m5,rfl,rfl,b⟩
     refine ⟨sF (b.bk 0 rfl),pF 9 r (QI r) (b.bk 0 rfl) (pF 10 r (jZ r) (b.bk 0 rfl) (hD ?_))⟩
     cases hm
     refine go ?_
     refine kS ?_
     refine qb (fn:=Try.f75) rfl (kW rfl) (kW rfl) ?_
     exact ⟨some n,rfl,rfl,m5,(b.arr [1,2,3,4,5] rfl).dp [4,5,6,7,8,9]⟩
   · rw [if_neg hf] at hm
     obtain ⟨q,hq,hm⟩:=CU hm
     refine goB b ?_
     refine eArg b 5 1 rfl rfl hq rfl rfl (fun _ _=>rfl) (fun _ _=>rfl) (fun f ch w' hb b=>?_) (fun n w4 α β hqn b=>?_)
     · rcases hm with ⟨n,rfl,_⟩|⟨_,rfl,rfl⟩
       · exact hb.elim
       · exact ⟨hb.up,[],m1,by rw [List.append_nil];exact (b.arr [1,2,3,4,5] rfl).dp [4,5,6,7,8,9]⟩
     subst hqn
     rcases hm with ⟨n,hn1,hm⟩|⟨h1,_⟩
     rotate_left
     · exact (h1 _ rfl).elim
     cases hn1
     cases hm
     refine go ?_
     refine kS ?_
     refine qb (fn:=Try.f75) rfl (kW rfl) (kW rfl) ?_
     exact ⟨some n,rfl,rfl,m1,(b.arr [1,2,3,4,5] rfl).dp [4,5,6,7,8,9]⟩
 rw [if_neg h] at hm
 refine goB b ?_
 refine qm rfl (fun h=>?_) (fun h=>?_)
 · rw [if_pos h] at hm
   obtain ⟨q,hq,hm⟩:=CU hm
   refine goB b ?_
   refine eArg b 5 1 rfl rfl hq rfl rfl (fun _ _=>rfl) (fun _ _=>rfl) (fun f ch w' hb b=>?_) (fun n w4 α β hqn b=>?_)
   · rcases hm with ⟨n,rfl,_⟩|⟨_,rfl,rfl⟩
     · exact hb.elim
     · exact ⟨hb.up,[],m1,by rw [List.append_nil];exact (b.arr [1,2,3,4,5] rfl).dp [4,5,6,7,8,9]⟩
   subst hqn
   rcases hm with ⟨n,hn1,hm⟩|⟨h1,_⟩
   rotate_left
   · exact (h1 _ rfl).elim
   cases hn1
   cases hm
   refine jR (Iy RI rfl) ?_
   exact zV rfl ⟨xH _,[],m1,by rw [List.append_nil];exact (b.arr [1,2,3,4,5] rfl).dp [4,5,6,7,8,9]⟩
 rw [if_neg h] at hm
 refine goB b ?_
 refine qm rfl (fun h=>?_) (fun h=>?_)
 · rw [if_pos h] at hm
   refine goB b ?_
   refine jR (mY (cS y a7 c7 a10 c10 a11 c11 a12 c12) lS jP rfl (b.bk 0 rfl)) ?_
   have hr:Qs w2 (Cy w A (pick _ [1,2,3,4,5] ++ pick _ [0])) R m1 ptrs x s1 xs gs (dS y a7 c7 a10 c10 a11 c11 a12 c12):=⟨b.pr [1,2,3,4,5] [0] [0,1,2,3,4,5,6,7,8,9] rfl,Az b hl (fun it hi=>List.mem_cons_of_mem _ hi),Nat.le_trans hB b.q9.size,hp,hn⟩
   have hc:=hTr hr hm
   clear hr
   refine IZ (pY Wx rfl) hc (fun ch w4 hq=>?_) ?_
   · obtain ⟨hq,more,m5,hK⟩:=hq
     have hb:=b.cn [1,2,3,4,5] [0] hK
     exact ⟨hq,more,m5,(hb.arr [0,1,2,3,4] rfl).dp [0,1,2,3,4,5]⟩
   rintro _ w4 ⟨o,rfl,rfl,m5,hK⟩
   replace b:=b.cn [1,2,3,4,5] [0] hK
   refine go ?_
   refine kS ?_
   refine qb (fn:=Try.f75) rfl (kW rfl) (kW rfl) ?_
   exact ⟨o,rfl,rfl,m5,(b.arr [0,1,2,3,4] rfl).dp [0,1,2,3,4,5]⟩
 rw [if_neg h] at hm
 refine goB b ?_
 refine qm rfl (fun h=>?_) (fun h=>?_)
 · rw [if_pos h] at hm
   obtain ⟨q,hq,hm⟩:=CU hm
   refine goB b ?_
   cases hA:y.a with
   | nil=>
     rw [hA] at hq
     cases hq
     rcases hm with ⟨n,h1,_⟩|⟨_,rfl,rfl⟩
     · cases h1
     refine uV (fun u=>mM u b5 111 (cS y a7 c7 a10 c10 a11 c11 a12 c12).toArray) (fun u=>mM u R.rb 89 (oJ R m1 ptrs.length (window s'.hist R.fr R.mo).length s'.hist.length s'.out.length).toArray) [16] (by kernel_rfl) ?_
     replace b:=b.drew
     have q1:mM w2.drew b5 111 (cS y a7 c7 a10 c10 a11 c11 a12 c12).toArray:=b.bk 0 rfl
     have q2:mM w2.drew R.rb 89 (oJ R m1 ptrs.length (window s'.hist R.fr R.mo).length s'.hist.length s'.out.length).toArray:=b.bk 1 rfl
     refine pL 0 r (vO r) q1 q2 (pL 1 r (vO r) q1 q2 (pL 2 r (xn r) q1 q2 (pL 3 r (Jb r) q1 q2 (tS 17 4 r (fun _ h=>UH r h r) (mD q1 q2) (pL 5 r (vO r) q1 q2 (pL 6 r (vO r) q1 q2 (pL 7 r (CR r) q1 q2 (tU 8 r (fun _ h=>M4 r h r) (mD q1 q2) ?_))))))))
     refine hO 9 (KT (n:=y.a.length) (a:=a10) (c:=c10) r Try.underlying109 r r (by rw [hA];simp) fun u w3 hw f=>⟨⟨u,xH _⟩,[],m1,?_⟩)
     rw [List.append_nil]
     exact Zr ((b.arr [1,2,3,4,5] rfl).dp [4,5,6,7,8,9]) hw
   | cons e l=>
     rw [hA] at hq
     have hk:y.a[0]?=some e:=by rw [hA];rfl
     obtain ⟨cs,hre,b⟩:=b.nm 1 rfl hk
     obtain ⟨a2,c2,rfl,hd⟩:=jA.out hre
     replace b:=b.kr (d:=.l a2 c2 e.a) hd
     refine uV (fun u=>mM u b5 111 (cS y a7 c7 a10 c10 a11 c11 a12 c12).toArray∧Cells u (nM a10) (oU a10+0 * 6) (cE e a2 c2)) (fun u=>mM u R.rb 89 (oJ R m1 ptrs.length (window s1.hist R.fr R.mo).length s1.hist.length s1.out.length).toArray) [16] (by kernel_rfl) ?_
     replace b:=b.drew
     have q1:mM w2.drew b5 111 (cS y a7 c7 a10 c10 a11 c11 a12 c12).toArray∧Cells w2.drew (nM a10) (oU a10+0 * 6) (cE e a2 c2):=⟨b.bk 0 rfl,b.dc 1 rfl⟩
     have q2:mM w2.drew R.rb 89 (oJ R m1 ptrs.length (window s1.hist R.fr R.mo).length s1.hist.length s1.out.length).toArray:=b.bk 1 rfl
     refine pL 0 r (vO r) q1 q2 (pL 1 r (vO r) q1 q2 (pL 2 r (xn r) q1 q2 (pL 3 r (Jb r) q1 q2 (tS 17 4 r (fun _ h=>UH r h r) (mD q1 q2) (pL 5 r (vO r) q1 q2 (pL 6 r (vO r) q1 q2 (pL 7 r (CR r) q1 q2 (tU 8 r (fun _ h=>M4 r h.1 r) (mD q1 q2) ?_))))))))
     refine pL 9 r (kV Try.underlying109 jS r r rfl (b.dl 3 rfl) hk) q1 q2 (tU 10 r (fun _ h=>nE (cE e a2 c2) Try.underlying138 rfl jS r r h.2) (mD q1 q2) ?_)
     refine hO 11 (QC r r (pY Bd rfl) (Ho fu (b.pr [] [] [0] rfl) (b.at 5 rfl) hq) (fun ch w3 hb f=>?_) ?_)
     · obtain ⟨hb,hx⟩:=hb
       rcases hm with ⟨n,rfl,_⟩|⟨_,rfl,rfl⟩
       · exact hb.elim
       · exact ⟨hb.up,[],m1,by rw [List.append_nil];exact (((b.ext hx).arr [1,2,3,4,5] rfl).dp [6,7,8,9,10,11])⟩
     rintro _ w3 ⟨n,rfl,rfl,hx⟩
     replace b:=b.ext hx
     rcases hm with ⟨n',hn1,hm⟩|⟨h1,_⟩
     rotate_left
     · exact (h1 _ rfl).elim
     cases hn1
     obtain ⟨o2,ho2,hm⟩:=bs hm
     cases hm
     refine ⟨mD ⟨b.bk 0 rfl,b.dc 1 rfl⟩ (b.bk 1 rfl),?_⟩
     refine hO 12 (oo r r (jL b [[V n]] ([n]:List Int) (Am r) r r (by decide) ⟨r,trivial⟩) ?_)
     rintro _ w4 ⟨b9,rfl,b⟩
     refine ⟨mD ⟨b.bk 1 rfl,b.dc 2 rfl⟩ (b.bk 2 rfl),?_⟩
     refine hO 13 (oo r r (kN b 5 8 r r sG mK r (by decide) (by decide) hB r r (b.zQ 0 0 r r) ho2) ?_)
     rintro _ w5 ⟨A2,c2',cs2,rfl,b⟩
     refine ⟨mD ⟨b.bk 1 rfl,b.dc 2 rfl⟩ (b.bk 2 rfl),pL 14 r (xn r) ⟨b.bk 1 rfl,b.dc 2 rfl⟩ (b.bk 2 rfl) (pL 15 r (Jb r) ⟨b.bk 1 rfl,b.dc 2 rfl⟩ (b.bk 2 rfl) ?_)⟩
     refine hO 16 (os r r (t_n b 2 [.slice A2 o2.length c2'] r Ak r r) fun w6 b=>⟨sy 16 ⟨b.bk 1 rfl,b.dc 2 rfl⟩,hD ?_⟩)
     refine go ?_
     refine kS ?_
     refine qb (fn:=Try.f75) rfl (kW rfl) (kW rfl) ?_
     exact ⟨none,rfl,rfl,{ m1 with oA:=A2,oC:=c2',oc:=cs2 },(b.arr [2,3,4,5,6] rfl).dp [7,8,9,10,11,12]⟩
 rw [if_neg h] at hm
 refine goB b ?_
 refine qm rfl (fun h=>?_) (fun h=>?_)
 · rw [if_pos h] at hm
   cases hm
   refine go ?_
   refine kS ?_
   refine qb (fn:=Try.f75) rfl (kW rfl) (kW rfl) ?_
   exact ⟨some 0,rfl,rfl,m1,(b.arr [1,2,3,4,5] rfl).dp [4,5,6,7,8,9]⟩
 rw [if_neg h] at hm
 cases hm
 refine go ?_
 refine kS ?_
 refine qb (fn:=Try.f75) rfl (kW rfl) (kW rfl) ?_
 exact ⟨none,rfl,rfl,m1,(b.arr [1,2,3,4,5] rfl).dp [4,5,6,7,8,9]⟩
theorem cst {fv:Nat} {R:Rn} (hR:Vk R):∀ fu,Zn R (stM (jO fv R.src) R.src R.st fu)
 | 0=>by
  intro _ h
  cases h
 | fu+1=>Js hR (cst hR fu)
end Go.Proofs.Ytfglbdkfnphjgaa
set_option linter.unusedVariables false
set_option maxHeartbeats 12800000
set_option linter.unusedSimpArgs false
set_option maxRecDepth 4000
namespace Go.Proofs.Ytfglbdkfnphjgaa
open Go.RowKit Go.Fw
noncomputable section
def Er (m:jQ→Int→(List Int)→Int→Int→Int→Option ((List kI) × nL)):Prop:=∀ {A:World} {H:Nat→Prop} {x:jQ} {C:Int} {B:(List Int)} {D:Int} {E:Int} {F:Int} {a:Option Addr} {b:Nat} {c:Option Addr} {d:Nat} {e:Option Addr} {f:Nat} {h:Option Addr} {i:Nat} {j:Option Addr} {k:Nat} {R:(List kI) × nL},Pre A H [] [.l a b x.a.a,.l c d x.a.b,.l e f x.b,.l h i x.c,.l j k B]→m x C B D E F=some R→
 Calls Try.prog 17 #[.agg #[Z a x.a.a b,Z c x.a.b d,Z e x.b f,Z h x.c i],V C,Z j B k,V D,V E,V F] A (qx fun v w=>jy R fun G z=>∃ (o:OA)(p:Nat)(t:OA)(u:Nat),v=.tuple #[Z o G p,.agg #[V z.d,.bool z.b,V z.c,Z t z.a u]]∧Bx A w H (lK []) [] [.l o p G,.l t u z.a])
end
end Go.Proofs.Ytfglbdkfnphjgaa
