/- Lower. -/
import Derived.Test.YtdkneekpdecjbaaGreatZ18
import Derived.Test.YtdkneekpdecjbaaGreatZ5
import Derived.Test.YtdkneekpdecjbaaGreatZ14
import Derived.Test.YtdkneekpdecjbaaGreatZ8
import Derived.Test.YtdkneekpdecjbaaGreatZ6
set_option linter.unusedVariables false
set_option maxRecDepth 4000
set_option maxHeartbeats 12800000
namespace Go.Proofs.YtdkneekpdecjbaaGreat
open Go.RowKit Go.Fw Go.Proofs.Tryz
noncomputable def uG (fu:Nat)(s:jY):Option (DF × Int):=(Wi fu (jS fu) s).map fun p=>(⟨p.1⟩,p.2)
abbrev cK (s:Lw)(m:zk):List Value:=[V s.b,.slice m.bA s.blocks.length m.bC,.slice m.cA s.ctxs.length m.cC,.slice m.oA s.objs.length m.oC]
theorem acQ {ρ:Operand->Value}{w:World}{d:Option Nat}{ty:TypeId}{pos:String}{af:Array Edge}{g:Option (Nat × Bool)}{x:Operand}{n:Int}{a1 a2 a3:Option Addr}{n1 c1 n2 c2 n3 c3:Nat}(h:ρ x=.agg #[V n,.slice a1 n1 c1,.slice a2 n2 c2,.slice a3 n3 c3]):(execOp ρ ⟨d,.buildSlice 34 1 #[(0,x)],ty,pos,af,g⟩).run prog w=.ok (.value (.slice (some ⟨w.heap.size,0,none⟩) 1 1)) (w.alloc (.cells #[V n,.slice a1 n1 c1,.slice a2 n2 c2,.slice a3 n3 c3] 52)):=by
 have e:(Instr.buildSlice 34 1 #[(0,.agg #[V n,.slice a1 n1 c1,.slice a2 n2 c2,.slice a3 n3 c3])]).run prog w=.ok (.slice (some ⟨w.heap.size,0,none⟩) 1 1) (w.alloc (.cells #[V n,.slice a1 n1 c1,.slice a2 n2 c2,.slice a3 n3 c3] 52)):=by kernel_rfl
 simp [execOp,h,e]
theorem Yp {A G:Nat->Prop}{L:List It}{D:List Da}{w0 w:World}{b2 b3:Nat}(b:Bx w0 w A G L D) :CallsD prog 23 #[Pt b2,Pt b3] .returning w (RD .returning (fun w'=>Bx w0 w' A G L D) (fun _ _=>False)):=by refine KS (u:=.returning) (v:=.nilIface) func23 rfl rfl rfl (adQ _ rfl) ?_;refine lH [(0,Pt b2),(1,Pt b3),(2,.nilIface)] ⟨rfl,rfl,rfl,trivial⟩ fun av=>?_;refine GD (xW ?_);refine kQ (V9 .nilIface rfl) ?_;refine kQ (Zq underlying20 rfl rfl (.inl ⟨rfl,rfl⟩)) ?_;refine jW b ?_;exact b
theorem Ur {w:World}{b o:Nat}{t:TypeId}{cs:Array Value}{l:List Value}(h:uz w b t cs)(hl:∀ j v,l[j]?=some v->cs[o+j]?=some v):Cells w b o l:=fun j v hv=>h.cell (hl j v hv)
theorem Ez (fu:Nat):KP (uG fu):=by
 intro w0 Y s a1 c1 a2 c2 a3 c3 a4 c4 R hP hM;have b:=hP.bx;clear hP;have hZ:∀ b,mV [] b->Y b:=fun b ⟨it,h,_⟩=>by cases h
 generalize hG:mV []=G at b hZ ⊢;obtain ⟨q,hM2,rfl⟩:=Option.map_eq_some_iff.1 hM;clear hM;have hM:Fq (jS fu s) s fu s.a.b.length 0 []=some q:=hM2;clear hM2;have hbd:=(b.dl 1 rfl).bd
 have key:Calls prog 11 #[.agg #[.slice a1 s.a.a.length c1,.slice a2 s.a.b.length c2,.slice a3 s.c.length c3,.slice a4 s.b.length c4]] w0
    (RP (fun v w'=>∃ (j:Option Addr)(k:Nat),v=.tuple #[.agg #[.slice j q.1.length k],V q.2]/\Bx w0 w' Y G [] [.l j k q.1]) (fun _ _=>False)):=by
  refine T9 func11 rfl ?_;refine Zo [(0,.agg #[.slice a1 s.a.a.length c1,.slice a2 s.a.b.length c2,.slice a3 s.c.length c3,.slice a4 s.b.length c4])] ⟨rfl,trivial⟩ fun av=>?_;refine acA (xW ?_);refine tq b (uV rfl) fun w1 b1 b=>?_;refine tq b (jP NK) fun w2 b2 b=>?_;refine tq b (jP O9) fun w3 b3 b=>?_;refine Nu ?_;replace b:=(b.FD qF 52).ad [3,2,1,0] [0,1,2,3,4];have b:Bx w0 w3 Y G [.box b1 30 #[.slice a1 s.a.a.length c1,.slice a2 s.a.b.length c2,.slice a3 s.c.length c3,.slice a4 s.b.length c4],.box b2 36 (cM none 0 0).toArray,.box b3 37 #[V 0],.own w0.heap.size none 0 52 (Rp.sz qF) []] [.els [] ([]:List qF),.l a1 c1 s.a.a,.l a2 c2 s.a.b,.l a3 c3 s.c,.l a4 c4 s.b]:=b;refine Zo [(1,Pt b1),(2,Pt b2),(3,Pt b3)] ⟨rfl,rfl,rfl,trivial⟩ fun av2=>?_;refine aaw (ad9 (vs:=[Pt b2,Pt b3]) rfl) (aey rfl) ?_;refine adx (Q:=⟨fun _ _=>False,fun _ _ _=>False,fun f w'=>(f 2=Pt b2/\f 3=Pt b3)/\∃ A c,q.2=0/\Bx w0 w' Y G [.box b2 36 (cM A q.1.length c).toArray,.box b3 37 #[V 0]] [.l A c q.1],
    fun f ch w'=>(f 2=Pt b2/\f 3=Pt b3)/\(∃ e x l,q=([],e)/\ch=⟨x,false,false⟩ :: l/\(∀ e ∈ l,e.goexit=false)/\acJ x e)/\∃ A n c,Bx w0 w' Y G [.box b2 36 (cM A n c).toArray,.box b3 37 #[V 0]] []⟩) ?_ ?_
  · refine jW b ?_
    refine kG (fun aw f w'=>∃ (j:Nat)(A:Option Addr)(c:Nat)(cs:List (List Value))(acc:List qF),aw=s.a.b.length - j∧j≤s.a.b.length∧Has f [(1,Pt b1),(2,Pt b2),(3,Pt b3),(10,V (s.a.b.length:Int)),(11,V (j:Int))]∧
        Bx w0 w' Y G [.box b1 30 #[.slice a1 s.a.a.length c1,.slice a2 s.a.b.length c2,.slice a3 s.c.length c3,.slice a4 s.b.length c4],.box b2 36 (cM A acc.length c).toArray,.box b3 37 #[V 0],.own w0.heap.size A c 52 (Rp.sz qF) cs] [.els cs acc,.l a1 c1 s.a.a,.l a2 c2 s.a.b,.l a3 c3 s.c,.l a4 c4 s.b]/\
        Fq (jS fu s) s fu (s.a.b.length - j) j acc=some q)
      s.a.b.length ⟨0,none,0,[],[],rfl,uW _,⟨rfl,rfl,rfl,rfl,rfl,trivial⟩,b,hM⟩ ?_
    clear b hM;rintro aw f w4 ⟨j,A,c,cs,acc,rfl,hj,hf,b,hM⟩ J hJ;obtain ⟨av3,rfl⟩:=kZ _ _ hf;clear hf;refine jW b ?_;refine rZ rfl (fun hlt=>?_) (fun hlt=>?_)
    · obtain ⟨k,hk⟩:∃ k,s.a.b.length - j=k+1:=⟨s.a.b.length - j - 1,by omega⟩;rw [hk,Fq] at hM;obtain ⟨lo,hlo,hM⟩:=bs hM;refine jW b ?_;refine kQ (lu [.slice a1 s.a.a.length c1,.slice a2 s.a.b.length c2,.slice a3 s.c.length c3,.slice a4 s.b.length c4] underlying30 zB rfl (b.bk 0 rfl)) ?_;refine jW b ?_;refine p8 (Zc b UJ VR underlying86) ?_;rintro _ w5 ⟨ob,rfl,b⟩;refine kQ (DC (v:=.agg (DI ⟨w0.heap.size,0,ob,⟨a1,c1,a2,c2,a3,c3,a4,c4⟩,s⟩ m0 (Rc j)).toArray) rfl (by kernel_rfl)) ?_;refine tq b (uV rfl) fun w6 lb b=>?_;refine jW b ?_;replace b:=XE (R:=⟨w0.heap.size,lb,ob,⟨a1,c1,a2,c2,a3,c3,a4,c4⟩,s⟩) (f:=j) b;have hcall:=aa8 (R:=⟨w0.heap.size,lb,ob,⟨a1,c1,a2,c2,a3,c3,a4,c4⟩,s⟩) (g:=24) (args:=#[Pt lb]) (mm:=PZ (jS fu s) s fu) (m:=m0) (s:=Rc j) Vf b hZ (ng _) hlo;refine sCP (jM ach rfl) hcall (fun ch w' h=>?_) ?_
      · obtain ⟨h1,h2⟩:=h;refine ⟨⟨rfl,rfl⟩,?_,A,acc.length,c,h2.ad [1,2] []⟩;cases lo with
        | ok a s'=>exact h1.elim
        | lim=>
          cases hM;obtain ⟨l,rfl,hl⟩:=h1;exact ⟨5,_,l,rfl,rfl,hl,.inl ⟨rfl,rfl⟩⟩
        | rt=>
          cases hM;obtain ⟨u,l,rfl,hl⟩:=h1;exact ⟨4,_,l,rfl,rfl,hl,.inr ⟨_,_,rfl,by decide,rfl⟩⟩
      rintro _ w7 ⟨s',m',rfl,rfl,b⟩;dsimp only at hM;obtain ⟨acc2,hacc,hM⟩:=bs hM;replace b:=Yq b hZ;refine jW b ?_;refine Fg b [7,9] fun b=>?_;refine Bj b ?_;refine wQ 1 rfl ?_;refine dU (v:=.slice A acc.length c) (fun hu=>yL rfl (hu.bk 2 rfl) rfl rfl rfl) (jI kI b) ?_;refine Bj b ?_;refine wQ 5 rfl ?_;refine dU (fun hu=>nO (cK s' m') underlying52 rfl Pw rfl rfl (Ur (hu.bk 0 rfl) fun j v h=>?_)) (jI kI b) ?_
      · rcases j with _ | _ | _ | _ | j
        · exact h
        · exact h
        · exact h
        · exact h
        · simp at h
      refine hO 6 (oo rfl rfl (jJ b [cK s' m'] ([s'.code]:List qF) (acQ rfl) rfl rfl (by decide) ⟨qF.inn ⟨m'.bA,m'.bC,m'.cA,m'.cC,m'.oA,m'.oC,rfl,b.d 0 rfl,b.d 1 rfl,b.d 2 rfl⟩,trivial⟩) ?_);rintro _ w8 ⟨b6,rfl,b⟩;refine ⟨jI kI (b.tl.Au fun d hd=>xQ _ hd),hO 7 (oo rfl rfl (ko (α:=qF) b 5 4 rfl rfl underlying34 Pw rfl (by decide) (by decide) (ng _) rfl rfl (b.Bc 0 0 rfl rfl) hacc) ?_)⟩;rintro _ w9 ⟨A2,k2,cs2,rfl,b⟩;refine ⟨sy 7 kI,?_⟩;refine wQ 8 rfl ?_;refine dP (yF rfl rfl rfl rfl) (sy 7 kI) ?_;refine hO 9 (os rfl rfl (t_n b 3 [.slice A2 acc2.length k2] rfl ab8 rfl rfl) fun w10 b=>⟨sy 9 kI,hD ?_⟩);replace b:=b.ad [2,3,4,5] [4,5,6,7,8];refine jW b ?_;exact hJ (s.a.b.length - (j+1)) _ _ (by omega) ⟨j+1,A2,k2,cs2,acc2,rfl,by omega,⟨rfl,rfl,rfl,rfl,congrArg V (UD (by omega)),trivial⟩,b,by rw [show s.a.b.length - (j+1)=k by omega];exact hM⟩
    · obtain rfl:j=s.a.b.length:=by omega
      rw [Nat.sub_self,Fq] at hM;cases hM;refine jW b ?_;refine uL ?_;refine jW b ?_;refine kQ (lu (cM A acc.length c) underlying36 NK rfl (b.bk 1 rfl)) ?_;refine kY (mM b 1 (cM A acc.length c) rfl NK rfl rfl) fun w5 b=>?_;refine kY (t_n b 2 [V 0] rfl O9 rfl rfl) fun w6 b=>?_;refine jW b ?_;refine lT ?_;exact ⟨⟨rfl,rfl⟩,A,c,rfl,(b.KN hZ 3 0 rfl rfl).ad [1,2] [0]⟩
  · have fin:∀ {f:Fr}{w':World}{A:Option Addr}{c:Nat},f 2=Pt b2→f 3=Pt b3→Bx w0 w' Y G [.box b2 36 (cM A q.1.length c).toArray,.box b3 37 #[V q.2]] [.l A c q.1]→
        Reads prog f11 (fun v w'=>∃ (j:Option Addr)(k:Nat),v=.tuple #[.agg #[.slice j q.1.length k],V q.2]/\Bx w0 w' Y G [] [.l j k q.1]) f w':=fun {f w' A c} h2 h3 b=>by
      refine Cy (fn:=f11) rfl (rdC h2 (fun ρ h=>lu (cM A q.1.length c) underlying36 NK h (b.bk 0 rfl)) (b.bk 0 rfl)) (rdC h3 (fun ρ h=>ku underlying37 rfl h ((b.bk 1 rfl).cell rfl)) (b.bk 1 rfl)) ?_;exact ⟨A,c,rfl,b.ad [] [0]⟩
    intro e a1' w1' q';cases e with
    | normal=>obtain ⟨f,h1,h2⟩:=q';exact h2.elim
    | exit i=>obtain ⟨f,h1,h2⟩:=q';exact h2.elim
    | ret=>
      obtain ⟨f,h1,⟨h12,h13⟩,A,c,he,b⟩:=q';show Leaves prog f11 a1'.tmps _ a1'.defers .returning w1';rw [h1.dfr];exact Px rfl rfl (Yp b) (fun w2 b=>fin h12 h13 (by rw [he];exact b)) h1
    | panic ch=>
      obtain ⟨f,h1,⟨h12,h13⟩,⟨e,x,l,rfl,rfl,hl,hE⟩,A,n,c,b⟩:=q';show Leaves prog f11 a1'.tmps _ a1'.defers (.panicking _) w1';rw [h1.dfr];exact Ro rfl rfl hl (YA b hE) (fun w2 b=>fin h12 h13 (b.jX (d:=.l none 0 ([]:List qF)) kr.nil)) (fun c w' h=>h.elim) h1
    | _=>exact q'.elim
 exact key.mono fun e w he=>by
  cases e with
  | returned v=>exact ⟨v,rfl,he⟩
  | panicked c=>exact he.elim
  | outgrown=>exact he.elim
set_option linter.unusedSimpArgs false
noncomputable section
def NG (m:Option Bool):Prop:=∀ {a c b},Pre a c [] []->m=some b-> Calls prog 10 #[] a (tN fun v w=>v=.bool b/\Bx a w c (mV []) [] [])
def AQ (fu:Nat):Option Bool:=(Dr fu (⟨#[102,117,110,99,32,102,40,97,41,32,123,32,114,101,116,117,114,110,32,97,32,43,32,49,59,32,125]⟩:BA)).bind fun b=>(uG fu b).bind fun f=>jy f fun a c=>if c=0 then if (a.b.length:Int)=1 then (ix a.b 0).bind fun e=>if (e.b.length:Int)=1 then (ix e.b 0).bind fun d=>some (decide ((d.c.length:Int)=4)) else some false else some false else some false
theorem Hr (fu:Nat):NG (AQ fu):=by
 intro w0 au r0 hP b;unfold AQ at b;have a:=hP.bx;clear hP;generalize hG:mV _=G at a ⊢;refine cf func10 r (lH [] y fun av=>q (g (s (kC r) (n (q (g ?_))))));obtain ⟨ab,h1,b⟩:=bs b;refine sc (ec abY r) (LA fu (a.pr [] [] [] r) h1) ?_;rintro _ w1 ⟨E,F,H,I,J,K,L,M,rfl,hK⟩;replace a:=a.cn [] [] hK;obtain ⟨m,ac,h2,b⟩:=l6 b;refine sc (ec ZB r) (Ez fu (a.pr [] [] [0,1,2,3] r) h2) ?_;rintro _ w2 ⟨c,e,rfl,hK⟩;replace a:=a.cn [] [] hK;refine s wH (s (kD r r) (s (kD r r) (tq a (jP NK) fun w3 b3 a=>kY (mM a 0 [Z c m.b e] r NK r r) fun w4 a=>s (xi r) (n (q (g (s (mi r) (s (kJ r r) (s (lD r) ?_)))))))));rcases iv b with ⟨h5,b⟩|⟨h5,b⟩
 ·rw [u6 h5];refine kF r (s (SK r) (kF r (s (l34 r (a.bk 0 r) r) (kF r (s (mO WI r) (kF r (s (kJ r r) (s (kR r r) (s (lD r) ?_)))))))));rcases iv b with ⟨h6,b⟩|⟨h6,b⟩
  ·rw [u6 h6];refine kF r (s (SK r) (kF r (s (l34 r (a.bk 0 r) r) ?_)));obtain ⟨e7,h,b⟩:=bs b;obtain ⟨k7,N,h⟩:=kW h;obtain ⟨ah,a8,a⟩:=a.nm 0 rfl h;obtain ⟨Q,R,S,U,W,X,rfl,Y,a0,a1⟩:=qF.out a8;replace a:=a.jX (d:=.l Q R e7.b) Y;replace a:=a.jX (d:=.l S U e7.c) a0;replace a:=a.jX (d:=.l W X e7.d) a1;refine kF r (s (lg WI Pw r r N (a.dl 4 r) h) (kF r (s (UQ r) (kF r (s (ku UA r r ((a.dc 3 r) 1 _ r)) (kF r (s (mO UA r) (kF r (s (kJ r r) (s (kR r r) (s (lD r) ?_)))))))))));rcases iv b with ⟨h9,b⟩|⟨h9,b⟩
   ·rw [u6 h9];refine kF r (s (SK r) (kF r (s (l34 r (a.bk 0 r) r) (kF r (s (lg WI Pw r r N (a.dl 4 r) h) (kF r (s (UQ r) (kF r (s (ku UA r r ((a.dc 3 r) 1 _ r)) ?_)))))))));obtain ⟨j,f,b⟩:=bs b;obtain ⟨ai,a2,f⟩:=kW f;obtain ⟨ae,a3,a⟩:=a.nm 2 rfl f;obtain ⟨o,p,t,u,v,w,x,z,rfl,A,B,C,D⟩:=nk.out a3;replace a:=a.jX (d:=.l o p j.c) A;replace a:=a.jX (d:=.l t u j.b.a) B;replace a:=a.jX (d:=.l v w j.b.d.a.a) C;replace a:=a.jX (d:=.l x z j.b.d.b.a) D;refine kF r (s (lg UA Oj r r a2 (a.dl 7 r) f) (kF r (s (U3 r) (kF r (s (ku uP r r ((a.dc 4 r) 1 _ r)) (kF r (s (mO uP r) (kF r (s (kJ r r) (s (kR r r) (s (kC r) (n (lT ?_)))))))))))));obtain rfl:=sm b;exact jL r (nD r) ⟨r,a.ad [] []⟩
   rw [wI h9];refine jZ r (jZ r (jZ r (jZ r (jZ r (jZ r (jZ r (jZ r (jZ r (jZ r (s (kH r r) (s (kC r) (n (lT ?_)))))))))))));obtain rfl:=sm b;exact jL r (nD r) ⟨r,a.ad [] []⟩
  rw [wI h6];refine jZ r (jZ r (jZ r (jZ r (jZ r (jZ r (jZ r (s (kH r r) (s (lD r) (jZ r (jZ r (jZ r (jZ r (jZ r (jZ r (jZ r (jZ r (jZ r (jZ r (s (kH r r) (s (kC r) (n (lT ?_))))))))))))))))))))));obtain rfl:=sm b;exact jL r (nD r) ⟨r,a.ad [] []⟩
 rw [wI h5];refine jZ r (jZ r (jZ r (jZ r (s (kH r r) (s (lD r) (jZ r (jZ r (jZ r (jZ r (jZ r (jZ r (jZ r (s (kH r r) (s (lD r) (jZ r (jZ r (jZ r (jZ r (jZ r (jZ r (jZ r (jZ r (jZ r (jZ r (s (kH r r) (s (kC r) (n (lT ?_))))))))))))))))))))))))))));obtain rfl:=sm b;exact jL r (nD r) ⟨r,a.ad [] []⟩
end
noncomputable section
def Jl (m:(List Int)->Option Bool):Prop:=∀ {c f d a b e},Pre c f [] [.l a b d]->m d=some e-> Calls prog 6 #[Z a d b] c (tN fun v w=>v=.bool e/\Bx c w f (mV []) [] [])
def uT (fu:Nat)(a:pR):Option (Ld Unit Bool):=if a.b=21 then if a.a.b≠2 then some (.out false) else if a.a.c≠0 then some (.out false) else some (.go ()) else some (.go ())
def yP (fu:Nat)(a:pR):Option (Ld Bool Bool):=if a.b≠19 then some (.go (decide (a.b≠20))) else some (.go false)
def qE (fu:Nat)(b:(List pR))(c:pR)(d:Nat):Nat→Int→Option (Ld (Int) (Bool))
 | 0,_=>none
 | e+1,a=>
 if a < (d:Int) then
  (ix b a).bind fun f=>
  if c.a.a=f.a.a then
   some (.out false)
  else
   qE fu b c d e (wr (a+1))
 else
  some (.go a)
def oW (fu:Nat)(a:(List pR)):List pR→Nat→Option (Ld (Unit) (Bool))
 | [],_=>some (.go ())
 | c :: d,b=>
 (qE fu a c b fu 0).bind fun f=>f.el (fun e=>
 oW fu a d (b+1)
 ) (fun o=>some (.out o))
def og (fu:Nat)(b:nk):List pR→Nat→Option (Ld (Unit) (Bool))
 | [],_=>some (.go ())
 | e :: f,c=>
 (uT fu e).bind fun i=>i.el (fun _=>
 (yP fu e).bind fun i=>i.el (fun d=>
 if d=true then
  og fu b f (c+1)
 else
  (sl b.c 0 (c:Int)).bind fun h=>
  (wX fu h).bind fun a=>
  (oW fu a a 0).bind fun i=>i.el (fun _=>
  og fu b f (c+1)
  ) (fun o=>some (.out o))
 ) (fun o=>some (.out o))
 ) (fun o=>some (.out o))
def o7 (fu:Nat):List nk→Nat→Option (Ld (Unit) (Bool))
 | [],_=>some (.go ())
 | a :: b,c=>
 (og fu a a.c 0).bind fun d=>d.el (fun _=>
 o7 fu b (c+1)
 ) (fun o=>some (.out o))
def o8 (fu:Nat):List qF→Nat→Option (Ld (Unit) (Bool))
 | [],_=>some (.go ())
 | a :: b,c=>
 (o7 fu a.b 0).bind fun d=>d.el (fun _=>
 o8 fu b (c+1)
 ) (fun o=>some (.out o))
def yh (fu:Nat)(h:(List Int)):Option Bool:=(wS fu h).bind fun i=>jy i fun b c=>if (!c)=true then (AQ fu).bind fun d=>some d else (uG fu b).bind fun i=>jy i fun e f=>(o8 fu e.b 0).bind fun i=>i.el (fun _=>(AQ fu).bind fun a=>some a) (fun o=>some o)
theorem Jk (fu:Nat):Jl (yh fu):=by
 intro w0 cD x0 aE aF r0 hP hM;unfold yh at hM;have o:=hP.bx;clear hP;generalize hG:mV _=G at o ⊢;refine cf func6 r (lH [(0,Z aE x0 aF)] ⟨r,y⟩ fun cE=>q (g (s (kC r) (n (q (g (s (nY r) ?_)))))));obtain ⟨a3,bI,h1,hM⟩:=l6 hM;refine sc (ec aeg r) (KO fu (o.pr [] [] [0] r) h1) ?_;rintro _ w1 ⟨aa,ab,ac,ae,af,ag,ah,ai,rfl,hK⟩;replace o:=o.cn [] [] hK;refine s wH (s (kD r r) (s (kD r r) (tq o (jP zB) fun w2 b2 o=>kY (mM o 0 [Z aa a3.a.a ab,Z ac a3.a.b ae,Z af a3.c ag,Z ah a3.b ai] r zB r r) fun w3 o=>s (kC r) (n (q (q (g (s (lD r) (s (Ee r) (n ?_))))))))));rcases iv hM with ⟨h4,hM⟩|⟨h4,hM⟩
 ·refine jK (cb h4) (q (g ?_));obtain ⟨bJ,h5,hM⟩:=bs hM;refine sc (ec ZG r) (Hr fu (o.pr [] [0] [] r) h5) ?_;rintro _ w5 ⟨rfl,hK⟩;replace o:=o.cn [] [0] hK;refine s (kC r) (n (lT ?_));obtain rfl:=sm hM;exact jL r (nD r) ⟨r,o.ad [] []⟩
 replace h4:=nt h4;refine jD (cb h4) (wk (q (g (s (lu [Z aa a3.a.a ab,Z ac a3.a.b ae,Z af a3.c ag,Z ah a3.b ai] Mf zB r (o.bk 0 r)) ?_))));obtain ⟨t,bK,h6,hM⟩:=l6 hM;refine sc (ec ZB r) (Ez fu (o.pr [] [0] [0,1,2,3] r) h6) ?_;rintro _ w6 ⟨b,e,rfl,hK⟩;replace o:=o.cn [] [0] hK;refine s wH (s (kD r r) (s (kD r r) (tq o (jP NK) fun w7 b7 o=>kY (mM o 0 [Z b t.b e] r NK r r) fun w8 o=>s (xi r) (n (q (q (g (s (SK r) (s (l34 r (o.bk 0 r) r) (s (mO WI r) (s (mi r) (n ?_))))))))))));have bZ:=(o.dl 0 r).bd;obtain ⟨Y9,a1,hM⟩:=bs hM;refine qM (fun f w=>Has f []/\Bx w0 w cD G [] [.l b e t.b]/\Ld.go ()=Y9) (fun J9 bv=>?_) ?_
 ·refine pW (kG (fun cF f w=>∃ k9,cF=t.b.length - k9/\k9<=t.b.length/\Has f [(32,V (k9:Int)),(30,Z b t.b e),(31,V (t.b.length:Int))]/\Bx w0 w cD G [] [.l b e t.b]/\o8 fu (t.b.drop k9) k9=some Y9) t.b.length ⟨0,r,uW _,⟨r,r,r,y⟩,o.ad [] [0],a1⟩ ?_);clear o a1;rintro cF f w ⟨k9,rfl,c0,hf,o,a1⟩ K9 bw;obtain ⟨cE,rfl⟩:=kZ _ _ hf;clear hf;rcases wU k9 t.b.length with aY | aY
  ·obtain ⟨H,aG⟩:=mI (l:=t.b) aY;rw [l5 aG,o8] at a1;obtain ⟨bM,aZ,o⟩:=o.nm 0 rfl aG;obtain ⟨c,p,J,K,L,M,rfl,aH,aI,aJ⟩:=qF.out aZ;replace o:=o.jX (d:=.l c p H.b) aH;replace o:=o.jX (d:=.l J K H.c) aI;replace o:=o.jX (d:=.l L M H.d) aJ;refine q (g (s (sW r r (by omega)) (n (q (jK r (wk (q (pW (q (g (s (lg WI Pw r r r (o.dl 4 r) aG) (s (nO [V H.a,Z c H.b p,Z J H.c K,Z L H.d M] aeQ r Pw r r (o.dc 3 r)) (tq o (jP Pw) fun c1 c2 o=>kY (mM o 0 [V H.a,Z c H.b p,Z J H.c K,Z L H.d M] r Pw r r) fun c3 o=>n (q (g (s (UQ r) (s (l48 r (o.bk 0 r) r) (s (mO UA r) (s (mi r) (n ?_))))))))))))))))))));have bN:=(o.dl 2 r).bd;obtain ⟨b0,R,a1⟩:=bs a1;refine qM (fun f w=>Has f [(30,Z b t.b e),(31,V (t.b.length:Int)),(32,V (k9:Int))]/\Bx w0 w cD G [] [.l L M H.d,.l J K H.c,.l c p H.b,.at (mX b) (nW b+k9 * sz qF) [V H.a,Z c H.b p,Z J H.c K,Z L H.d M],.l b e t.b]/\Ld.go ()=b0) (fun c4 b1=>?_) ?_
   ·refine pW (kG (fun cF f w=>∃ W,cF=H.b.length - W/\W<=H.b.length/\Has f [(39,V (W:Int)),(30,Z b t.b e),(31,V (t.b.length:Int)),(32,V (k9:Int)),(37,Z c H.b p),(38,V (H.b.length:Int))]/\Bx w0 w cD G [] [.l L M H.d,.l J K H.c,.l c p H.b,.at (mX b) (nW b+k9 * sz qF) [V H.a,Z c H.b p,Z J H.c K,Z L H.d M],.l b e t.b]/\o7 fu (H.b.drop W) W=some b0) H.b.length ⟨0,r,uW _,⟨r,r,r,r,r,r,y⟩,o.arr [] r,R⟩ ?_);clear o R;rintro cF f w ⟨W,rfl,bO,hf,o,R⟩ c5 b3;obtain ⟨cE,rfl⟩:=kZ _ _ hf;clear hf;rcases wU W H.b.length with aw | aw
    ·obtain ⟨a,ap⟩:=mI (l:=H.b) aw;rw [l5 ap,o7] at R;obtain ⟨bP,b4,o⟩:=o.nm 2 rfl ap;obtain ⟨j,m,u,v,x,C,D,E,rfl,aK,aL,aM,aN⟩:=nk.out b4;replace o:=o.jX (d:=.l j m a.c) aK;replace o:=o.jX (d:=.l u v a.b.a) aL;replace o:=o.jX (d:=.l x C a.b.d.a.a) aM;replace o:=o.jX (d:=.l D E a.b.d.b.a) aN;refine q (g (s (sW r r (by omega)) (n (q (jK r (wk (q (pW (q (g (s (lg UA Oj r r r (o.dl 7 r) ap) (s (nO [V a.a,Z j a.c m,V a.b.b,V a.b.A,V a.b.N,Z u a.b.a v,V a.b.d.a.b,Z x a.b.d.a.a C,V a.b.d.b.b,Z D a.b.d.b.a E] aeI r Oj r r (o.dc 4 r)) (tq o (jP Oj) fun c6 a6 o=>kY (mM o 0 [V a.a,Z j a.c m,V a.b.b,V a.b.A,V a.b.N,Z u a.b.a v,V a.b.d.a.b,Z x a.b.d.a.a C,V a.b.d.b.b,Z D a.b.d.b.a E] r Oj r r) fun c7 o=>n (q (g (s (U3 r) (s (l62 r (o.bk 0 r) r) (s (mO uP r) (s (mi r) (n ?_))))))))))))))))))));have bQ:=(o.dl 3 r).bd;obtain ⟨b5,I,R⟩:=bs R;refine qM (fun f w=>Has f [(30,Z b t.b e),(31,V (t.b.length:Int)),(32,V (k9:Int)),(37,Z c H.b p),(38,V (H.b.length:Int)),(39,V (W:Int))]/\Bx w0 w cD G [.box a6 69 #[V a.a,Z j a.c m,V a.b.b,V a.b.A,V a.b.N,Z u a.b.a v,V a.b.d.a.b,Z x a.b.d.a.a C,V a.b.d.b.b,Z D a.b.d.b.a E]] [.l D E a.b.d.b.a,.l x C a.b.d.a.a,.l u v a.b.a,.l j m a.c,.at (mX c) (nW c+W * sz nk) [V a.a,Z j a.c m,V a.b.b,V a.b.A,V a.b.N,Z u a.b.a v,V a.b.d.a.b,Z x a.b.d.a.a C,V a.b.d.b.b,Z D a.b.d.b.a E],.l L M H.d,.l J K H.c,.l c p H.b,.at (mX b) (nW b+k9 * sz qF) [V H.a,Z c H.b p,Z J H.c K,Z L H.d M],.l b e t.b]/\Ld.go ()=b5) (fun c8 b6=>?_) ?_
     ·refine pW (kG (fun cF f w=>∃ a2,cF=a.c.length - a2/\a2<=a.c.length/\Has f [(46,V (a2:Int)),(10,Pt a6),(30,Z b t.b e),(31,V (t.b.length:Int)),(32,V (k9:Int)),(37,Z c H.b p),(38,V (H.b.length:Int)),(39,V (W:Int)),(44,Z j a.c m),(45,V (a.c.length:Int))]/\Bx w0 w cD G [.box a6 69 #[V a.a,Z j a.c m,V a.b.b,V a.b.A,V a.b.N,Z u a.b.a v,V a.b.d.a.b,Z x a.b.d.a.a C,V a.b.d.b.b,Z D a.b.d.b.a E]] [.l D E a.b.d.b.a,.l x C a.b.d.a.a,.l u v a.b.a,.l j m a.c,.at (mX c) (nW c+W * sz nk) [V a.a,Z j a.c m,V a.b.b,V a.b.A,V a.b.N,Z u a.b.a v,V a.b.d.a.b,Z x a.b.d.a.a C,V a.b.d.b.b,Z D a.b.d.b.a E],.l L M H.d,.l J K H.c,.l c p H.b,.at (mX b) (nW b+k9 * sz qF) [V H.a,Z c H.b p,Z J H.c K,Z L H.d M],.l b e t.b]/\og fu a (a.c.drop a2) a2=some b5) a.c.length ⟨0,r,uW _,⟨r,r,r,r,r,r,r,r,r,r,y⟩,o,I⟩ ?_);clear o I;rintro cF f w ⟨a2,rfl,bR,hf,o,I⟩ c9 ax;obtain ⟨cE,rfl⟩:=kZ _ _ hf;clear hf;rcases wU a2 a.c.length with ay | ay
      ·obtain ⟨F,aq⟩:=mI (l:=a.c) ay;rw [l5 aq,og] at I;refine q (g (s (sW r r (by omega)) (n (q (jK r (wk (q (pW (q (g (s (mi r) (s (lg uP sD r r r (o.dl 3 r) aq) (s (Q0 [V F.b,V F.e,V F.A,V F.B,V F.N,V F.d,V F.f,V F.c,V F.a.b,V F.a.a,V F.a.c] Qn sD r (o.dl 3 r) aq) (tq o (jP sD) fun cc b8 o=>s (xi r) (kY (mM o 0 [V F.b,V F.e,V F.A,V F.B,V F.N,V F.d,V F.f,V F.c,V F.a.b,V F.a.a,V F.a.c] r sD r r) fun cd o=>n (q ?_))))))))))))))));obtain ⟨bz,Y,I⟩:=bs I;refine Ig o (fun Q f w=>Has f [(10,Pt a6),(11,V (a2:Int)),(12,Pt b8),(30,Z b t.b e),(31,V (t.b.length:Int)),(32,V (k9:Int)),(37,Z c H.b p),(38,V (H.b.length:Int)),(39,V (W:Int)),(44,Z j a.c m),(45,V (a.c.length:Int)),(46,V (a2:Int))]/\Q w/\Ld.go ()=bz) (fun ce az=>?_) ?_
       ·unfold uT at Y;refine q (g (s (Tc r) (s (l3 r (o.bk 0 r) r) (s (kJ r r) (s (lD r) ?_)))));rcases iv Y with ⟨aO,Y⟩|⟨aO,Y⟩
        ·rw [Gd aO];refine kF r (s (SS r) (kF r (s (adG r) (kF r (s (l3 r (o.bk 0 r) r) (kF r (s (rP r r) (kF r (s (lD r) ?_)))))))));rcases iv Y with ⟨aP,Y⟩|⟨aP,Y⟩
         ·rw [Gd aP];refine jZ r (jZ r (jZ r (jZ r (kF r (s (kR r r) (s (kR r r) (n (jK r (q (g (s (kC r) (n (lT ?_)))))))))))));obtain rfl:=sm Y;replace I:=oi I;obtain rfl:=sm I;replace R:=oi R;obtain rfl:=sm R;replace a1:=oi a1;obtain rfl:=sm a1;replace hM:=oi hM;obtain rfl:=sm hM;exact jL r (nD r) ⟨r,o.ad [] []⟩
         rw [Ga aP];refine kF r (s (SS r) (kF r (s (ab0 r) (kF r (s (l3 r (o.bk 0 r) r) (kF r (s (rP r r) (kF r (s (kH r r) (s (kR r r) (n ?_)))))))))));rcases iv Y with ⟨aQ,Y⟩|⟨aQ,Y⟩
         ·refine jK (bt aQ) (q (g (s (kC r) (n (lT ?_)))));obtain rfl:=sm Y;replace I:=oi I;obtain rfl:=sm I;replace R:=oi R;obtain rfl:=sm R;replace a1:=oi a1;obtain rfl:=sm a1;replace hM:=oi hM;obtain rfl:=sm hM;exact jL r (nD r) ⟨r,o.ad [] []⟩
         exact jD (bf aQ) (wk (az _ _ ⟨⟨r,r,r,r,r,r,r,r,r,r,r,r,y⟩,o,sm Y⟩))
        rw [Ga aO];exact jZ r (jZ r (jZ r (jZ r (jZ r (jZ r (jZ r (jZ r (jZ r (jZ r (s (kH r r) (n (jD r (wk (az _ _ ⟨⟨r,r,r,r,r,r,r,r,r,r,r,r,y⟩,o,sm Y⟩))))))))))))))
       clear o;rintro f w ⟨hf,o,b9⟩;obtain ⟨cE,rfl⟩:=kZ _ _ hf;clear hf;subst b9;replace I:=gi I;refine q (q ?_);obtain ⟨bA,ak,I⟩:=bs I;refine Ig (o.arr [1] r) (fun B f w=>∃ al,Has f [(10,Pt a6),(11,V (a2:Int)),(30,Z b t.b e),(31,V (t.b.length:Int)),(32,V (k9:Int)),(37,Z c H.b p),(38,V (H.b.length:Int)),(39,V (W:Int)),(44,Z j a.c m),(45,V (a.c.length:Int)),(46,V (a2:Int)),(73,.bool al)]/\B w/\Ld.go al=bA) (fun cg aA=>?_) ?_
       ·unfold yP at ak;refine g (s (Tc r) (s (l3 r (o.bk 0 r) r) (s (rP r r) (s (lD r) ?_))));rcases iv ak with ⟨aR,ak⟩|⟨aR,ak⟩
        ·rw [Gd aR];exact kF r (s (Tc r) (kF r (s (l3 r (o.bk 0 r) r) (kF r (s (rP r r) (s (kR r r) (n (aA _ _ ⟨decide (F.b≠20),⟨r,r,r,r,r,r,r,r,r,r,r,r,y⟩,o.arr [1] r,sm ak⟩))))))))
        rw [Ga aR];exact jZ r (jZ r (jZ r (s (kH r r) (n (aA _ _ ⟨false,⟨r,r,r,r,r,r,r,r,r,r,r,r,y⟩,o.arr [1] r,sm ak⟩)))))
       clear o;rintro f w ⟨al,hf,o,ba⟩;obtain ⟨cE,rfl⟩:=kZ _ _ hf;clear hf;subst ba;replace I:=gi I;rcases iv I with ⟨ar,I⟩|⟨ar,I⟩
       ·exact jK (cb ar) (uL (g (s (mE r r (by omega) (by omega)) (s (mi r) (n (ax (a.c.length - (a2+1)) _ _ (by omega) ⟨a2+1,r,by omega,⟨r,r,r,r,r,r,r,r,r,r,y⟩,o,I⟩))))))
       replace ar:=nt ar;refine jD (cb ar) (wk (q (g (s (U3 r) (s (l62 r (o.bk 0 r) r) (s (mi r) ?_))))));obtain ⟨aS,bb,I⟩:=bs I;obtain ⟨bB,bc,bS,bg,bC,aB,aC⟩:=yO bb;obtain rfl:bB=0:=by omega
       have aT:aS.length=bc:=by rw [<-aC,vT,Ck];omega
       replace o:=o.jX (d:=.l j m aS) (by have cG:=(o.dl 3 r).head aB;rw [aC] at cG;exact cG);refine s (show Yl _ _ _ _ _ _ _ _ _ (.slice j aS.length m) from (congrArg (fun z=>Value.slice j z m) aT).symm ▸ xS bc uP sD r r bg (rT aB (o.dl 4 r).cap)) ?_;obtain ⟨Q,bD,I⟩:=bs I;refine sc (ec ac0 r) (Kw fu (o.pr [] [0] [0] r) bD) ?_;rintro _ ch ⟨S,U,rfl,hK⟩;replace o:=o.cn [] [0] hK;refine s (nK r) (n (q (g (s (nY r) (s (mO uP r) (s (mi r) (n ?_)))))));have bT:=(o.dl 0 r).bd;obtain ⟨bh,a0,I⟩:=bs I;refine qM (fun f w=>Has f [(10,Pt a6),(30,Z b t.b e),(31,V (t.b.length:Int)),(32,V (k9:Int)),(37,Z c H.b p),(38,V (H.b.length:Int)),(39,V (W:Int)),(44,Z j a.c m),(45,V (a.c.length:Int)),(46,V (a2:Int))]/\Bx w0 w cD G [.box a6 69 #[V a.a,Z j a.c m,V a.b.b,V a.b.A,V a.b.N,Z u a.b.a v,V a.b.d.a.b,Z x a.b.d.a.a C,V a.b.d.b.b,Z D a.b.d.b.a E]] [.l S U Q,.l D E a.b.d.b.a,.l x C a.b.d.a.a,.l u v a.b.a,.l j m a.c,.at (mX c) (nW c+W * sz nk) [V a.a,Z j a.c m,V a.b.b,V a.b.A,V a.b.N,Z u a.b.a v,V a.b.d.a.b,Z x a.b.d.a.a C,V a.b.d.b.b,Z D a.b.d.b.a E],.l L M H.d,.l J K H.c,.l c p H.b,.at (mX b) (nW b+k9 * sz qF) [V H.a,Z c H.b p,Z J H.c K,Z L H.d M],.l b e t.b]/\Ld.go ()=bh) (fun ci bi=>?_) ?_
       ·refine pW (kG (fun cF f w=>∃ a8,cF=Q.length - a8/\a8<=Q.length/\Has f [(81,V (a8:Int)),(10,Pt a6),(13,Z S Q U),(30,Z b t.b e),(31,V (t.b.length:Int)),(32,V (k9:Int)),(37,Z c H.b p),(38,V (H.b.length:Int)),(39,V (W:Int)),(44,Z j a.c m),(45,V (a.c.length:Int)),(46,V (a2:Int)),(80,V (Q.length:Int))]/\Bx w0 w cD G [.box a6 69 #[V a.a,Z j a.c m,V a.b.b,V a.b.A,V a.b.N,Z u a.b.a v,V a.b.d.a.b,Z x a.b.d.a.a C,V a.b.d.b.b,Z D a.b.d.b.a E]] [.l S U Q,.l D E a.b.d.b.a,.l x C a.b.d.a.a,.l u v a.b.a,.l j m a.c,.at (mX c) (nW c+W * sz nk) [V a.a,Z j a.c m,V a.b.b,V a.b.A,V a.b.N,Z u a.b.a v,V a.b.d.a.b,Z x a.b.d.a.a C,V a.b.d.b.b,Z D a.b.d.b.a E],.l L M H.d,.l J K H.c,.l c p H.b,.at (mX b) (nW b+k9 * sz qF) [V H.a,Z c H.b p,Z J H.c K,Z L H.d M],.l b e t.b]/\oW fu Q (Q.drop a8) a8=some bh) Q.length ⟨0,r,uW _,⟨r,r,r,r,r,r,r,r,r,r,r,r,r,y⟩,o.dp [0,2,3,4,5,6,7,8,9,10,11],a0⟩ ?_);clear o a0;rintro cF f w ⟨a8,rfl,bU,hf,o,a0⟩ cj bj;obtain ⟨cE,rfl⟩:=kZ _ _ hf;clear hf;rcases wU a8 Q.length with aD | aD
        ·obtain ⟨a9,au⟩:=mI (l:=Q) aD;rw [l5 au,oW] at a0;refine q (g (s (sW r r (by omega)) (n (q (jK r (wk (q (pW (q (g (s (mi r) (s (xi r) (n (q (g (s (xi r) (n ?_)))))))))))))))));obtain ⟨bl,X,a0⟩:=bs a0;refine qM (fun f w=>∃ a4,Has f [(10,Pt a6),(13,Z S Q U),(30,Z b t.b e),(31,V (t.b.length:Int)),(32,V (k9:Int)),(37,Z c H.b p),(38,V (H.b.length:Int)),(39,V (W:Int)),(44,Z j a.c m),(45,V (a.c.length:Int)),(46,V (a2:Int)),(80,V (Q.length:Int)),(81,V (a8:Int))]/\Bx w0 w cD G [.box a6 69 #[V a.a,Z j a.c m,V a.b.b,V a.b.A,V a.b.N,Z u a.b.a v,V a.b.d.a.b,Z x a.b.d.a.a C,V a.b.d.b.b,Z D a.b.d.b.a E]] [.l S U Q,.l D E a.b.d.b.a,.l x C a.b.d.a.a,.l u v a.b.a,.l j m a.c,.at (mX c) (nW c+W * sz nk) [V a.a,Z j a.c m,V a.b.b,V a.b.A,V a.b.N,Z u a.b.a v,V a.b.d.a.b,Z x a.b.d.a.a C,V a.b.d.b.b,Z D a.b.d.b.a E],.l L M H.d,.l J K H.c,.l c p H.b,.at (mX b) (nW b+k9 * sz qF) [V H.a,Z c H.b p,Z J H.c K,Z L H.d M],.l b e t.b]/\Ld.go a4=bl) (fun ck bm=>?_) ?_
         ·refine pW (kG (fun cF f w=>∃ a4,Has f [(10,Pt a6),(13,Z S Q U),(14,V (a8:Int)),(15,V a4),(30,Z b t.b e),(31,V (t.b.length:Int)),(32,V (k9:Int)),(37,Z c H.b p),(38,V (H.b.length:Int)),(39,V (W:Int)),(44,Z j a.c m),(45,V (a.c.length:Int)),(46,V (a2:Int)),(80,V (Q.length:Int)),(81,V (a8:Int))]/\Bx w0 w cD G [.box a6 69 #[V a.a,Z j a.c m,V a.b.b,V a.b.A,V a.b.N,Z u a.b.a v,V a.b.d.a.b,Z x a.b.d.a.a C,V a.b.d.b.b,Z D a.b.d.b.a E]] [.l S U Q,.l D E a.b.d.b.a,.l x C a.b.d.a.a,.l u v a.b.a,.l j m a.c,.at (mX c) (nW c+W * sz nk) [V a.a,Z j a.c m,V a.b.b,V a.b.A,V a.b.N,Z u a.b.a v,V a.b.d.a.b,Z x a.b.d.a.a C,V a.b.d.b.b,Z D a.b.d.b.a E],.l L M H.d,.l J K H.c,.l c p H.b,.at (mX b) (nW b+k9 * sz qF) [V H.a,Z c H.b p,Z J H.c K,Z L H.d M],.l b e t.b]/\qE fu Q a9 a8 cF a4=some bl) fu ⟨0,⟨r,r,r,r,r,r,r,r,r,r,r,r,r,r,r,y⟩,o,X⟩ ?_);clear o X;rintro aU f w ⟨a4,hf,o,X⟩ cm bn;obtain ⟨cE,rfl⟩:=kZ _ _ hf;clear hf;cases aU with
          | zero=>exact nn X
          | succ aU=>
           rw [qE] at X;refine q (q (g (s (mi r) (s (mi r) (s (qP r r) (n ?_))))));rcases iv X with ⟨aV,X⟩|⟨aV,X⟩
           ·refine jK (bt aV) (wk (q (pW (q (qp o [] [0] [] (by kernel_rfl) ?_)))));replace o:=o.drew;have hs:=o.ad [] [0];refine pF 0 r (nY r) hs (pF 1 r (mi r) hs (pF 2 r (lg uP sD r r r (o.dl 0 r) au) hs (pF 3 r (SS r) hs (pF 4 r (ZI r) hs (tU 5 r (fun _ hS=>ku Ob r r ((uY (ds:=[V a9.b,V a9.e,V a9.A,V a9.B,V a9.N,V a9.d,V a9.f,V a9.c,V a9.a.b,V a9.a.a,V a9.a.c]) (hS.dl 0 r) au (fun _ h=>h)) 9 _ r)) (sF hs) (pF 6 r (nY r) hs (pF 7 r (mi r) hs ?_)))))));obtain ⟨aj,am,X⟩:=bs X;obtain ⟨cn,bo,am⟩:=kW am;refine pF 8 r (lg uP sD r r bo (o.dl 0 r) am) hs (pF 9 r (SS r) hs (pF 10 r (ZI r) hs (tU 11 r (fun _ hS=>ku Ob r r ((uY (ds:=[V aj.b,V aj.e,V aj.A,V aj.B,V aj.N,V aj.d,V aj.f,V aj.c,V aj.a.b,V aj.a.a,V aj.a.c]) (hS.dl 0 r) am (fun _ h=>h)) 9 _ r)) (sF hs) (pF 12 r (kJ r r) hs (hD ?_)))));rcases iv X with ⟨aW,X⟩|⟨aW,X⟩
            ·refine jK (bt aW) (q (g (s (kC r) (n (lT ?_)))));obtain rfl:=sm X;replace a0:=oi a0;obtain rfl:=sm a0;replace I:=oi I;obtain rfl:=sm I;replace R:=oi R;obtain rfl:=sm R;replace a1:=oi a1;obtain rfl:=sm a1;replace hM:=oi hM;obtain rfl:=sm hM;exact jL r (nD r) ⟨r,o.ad [] []⟩
            exact jD (bf aW) (wk (g (s (mi r) (s (kL r r) (s (xi r) (n (bn aU _ _ (D9 _) ⟨wr (a4+1),⟨r,r,r,r,r,r,r,r,r,r,r,r,r,r,r,y⟩,o,X⟩)))))))
           exact jD (bf aV) (uL (bm _ _ ⟨a4,⟨r,r,r,r,r,r,r,r,r,r,r,r,r,y⟩,o,sm X⟩))
         clear o;rintro f w ⟨a4,hf,o,bp⟩;obtain ⟨cE,rfl⟩:=kZ _ _ hf;clear hf;subst bp;replace a0:=gi a0;exact g (s (mE r r (by omega) (by omega)) (s (mi r) (n (bj (Q.length - (a8+1)) _ _ (by omega) ⟨a8+1,r,by omega,⟨r,r,r,r,r,r,r,r,r,r,r,r,r,y⟩,o,a0⟩))))
        obtain rfl:a8=Q.length:=by omega
        rw [lV,oW] at a0;exact q (g (s (sZ r r (by omega)) (n (q (jD r (uL (bi _ _ ⟨⟨r,r,r,r,r,r,r,r,r,r,y⟩,o,sm a0⟩)))))))
       clear o;rintro f w ⟨hf,o,bq⟩;obtain ⟨cE,rfl⟩:=kZ _ _ hf;clear hf;subst bq;replace I:=gi I;exact g (s (mE r r (by omega) (by omega)) (s (mi r) (n (ax (a.c.length - (a2+1)) _ _ (by omega) ⟨a2+1,r,by omega,⟨r,r,r,r,r,r,r,r,r,r,y⟩,o.dp [1,2,3,4,5,6,7,8,9,10],I⟩))))
      obtain rfl:a2=a.c.length:=by omega
      rw [lV,og] at I;exact q (g (s (sZ r r (by omega)) (n (q (jD r (uL (b6 _ _ ⟨⟨r,r,r,r,r,r,y⟩,o,sm I⟩)))))))
     clear o;rintro f w ⟨hf,o,br⟩;obtain ⟨cE,rfl⟩:=kZ _ _ hf;clear hf;subst br;replace R:=gi R;exact g (s (mE r r (by omega) (by omega)) (s (mi r) (n (b3 (H.b.length - (W+1)) _ _ (by omega) ⟨W+1,r,by omega,⟨r,r,r,r,r,r,y⟩,o.ad [] [5,6,7,8,9],R⟩))))
    obtain rfl:W=H.b.length:=by omega
    rw [lV,o7] at R;exact q (g (s (sZ r r (by omega)) (n (q (jD r (uL (b1 _ _ ⟨⟨r,r,r,y⟩,o,sm R⟩)))))))
   clear o;rintro f w ⟨hf,o,bu⟩;obtain ⟨cE,rfl⟩:=kZ _ _ hf;clear hf;subst bu;replace a1:=gi a1;exact g (s (mE r r (by omega) (by omega)) (s (mi r) (n (bw (t.b.length - (k9+1)) _ _ (by omega) ⟨k9+1,r,by omega,⟨r,r,r,y⟩,o.dp [4],a1⟩))))
  obtain rfl:k9=t.b.length:=by omega
  rw [lV,o8] at a1;exact q (g (s (sZ r r (by omega)) (n (q (jD r (uL (bv _ _ ⟨y,o,sm a1⟩)))))))
 clear o;rintro f w ⟨hf,o,bE⟩;obtain ⟨cE,rfl⟩:=kZ _ _ hf;clear hf;subst bE;replace hM:=gi hM;refine q (g ?_);obtain ⟨bF,bG,hM⟩:=bs hM;refine sc (ec ZG r) (Hr fu (o.pr [] [] [] r) bG) ?_;rintro _ co ⟨rfl,hK⟩;replace o:=o.cn [] [] hK;refine s (kC r) (n (lT ?_));obtain rfl:=sm hM;exact jL r (nD r) ⟨r,o.dp []⟩
end
def Mm (a b:Nat)(s s':Lw):Prop:=∀ i:Int,OJ s.blocks i<=OJ s'.blocks i/\OJ s'.blocks i<=OJ s.blocks i+if (a:Int)<=i/\i < b then 1 else 0
theorem ZK.mm {a b:Nat}{s s':Lw}(h:ZK s s'):Mm a b s s':=fun i=>by rw [h.2 i];exact ⟨ng _,Nat.le_add_right _ _⟩
theorem Mm.trans {a b c:Nat}{s s1 s2:Lw}(hab:a<=b)(hbc:b<=c)(h:Mm a b s s1)(k:Mm b c s1 s2):Mm a c s s2:=fun i=>by have h:=h i;have k:=k i;split at h <;> split at k <;> split <;> omega
theorem Mm.wid {a b d:Nat}{s s1:Lw}(hb:b<=d)(h:Mm a b s s1):Mm a d s s1:=fun i=>by have h:=h i;split at h <;> split <;> omega
inductive Ids:List jA→Nat→Nat→Prop
 | nil (a:Nat):Ids [] a a
 | cons {x:jA} {l:List jA} {a c d b:Nat} (h:x.n=a) (h1:∀ y ∈ x.a,XO y) (h2:∀ y ∈ x.e,XO y) (s1:Ids x.d (a+1) c) (s2:Ids x.h c d) (s3:Ids l d b):Ids (x :: l) a b
theorem Ids.le {l:List jA}{a b:Nat}(h:Ids l a b):a<=b:=by
 induction h with
 | nil=>exact ng _
 | cons _ _ _ _ _ _ i1 i2 i3=>omega
section
variable {α β:Type}{c:LM α}{f:α->LM β}{a b d:Nat}
def Mk1 (a d:Nat)(s s':Lw):Prop:=s.stmt=(a:Int)->Mm a d s s'/\OJ s.blocks a+1<=OJ s'.blocks a
end
theorem k1 {f:Unit->LM Unit}{a d:Nat}(hd:a+1<=d)(k:∀ x,Qt (f x) (Mm (a+1) d)):Qt (GZ.bind f) (Mk1 a d):=Z8.bind k fun s s1 s2 h1 h2 hs=>by
 refine ⟨fun i=>?_,?_⟩
 · have h:=h1.2 i;have k:=h2 i;rw [hs] at h;split at h <;> split at k <;> split <;> omega
 · have h:=h1.2 a;have k:=h2 a;rw [hs,lX rfl] at h;omega
section
variable {vis:Int->Int->Option (List Int)}{vars:List (List iA)}{st:jA->LM Unit}{fu:Nat}
end
theorem QF {n:Int}(h:0<=n)(h2:n<=1000000):wr n=n:=by unfold wr;rw [Uo (by omega) (by omega)]
structure ady (src:jY)(B:Nat->Nat):Prop where
 b0:B 0=0
 be:B src.a.b.length=src.b.length
 sm:src.b.length<=1000
 ids:∀ (j:Nat)(fn:kT),src.a.b[j]?=some fn->Ids fn.d (B j) (B (j+1))
 fn:∀ (j i:Nat),j < src.a.b.length->B j<=i->i < B (j+1)->∃ x,src.b[i]?=some x/\x.k=(j:Int)
theorem ady.find {src:jY}{B:Nat→Nat}(h:ady src B){i:Nat}:∀ n,n≤src.a.b.length→i < B n→∃ j,j < n∧B j≤i∧i < B (j+1)
 | 0,_,hi=>by rw [h.b0] at hi;omega
 | n+1,hn,hi=>by
  by_cases c:B n<=i
  · exact ⟨n,by omega,c,hi⟩
  · obtain ⟨j,h1,h2,h3⟩:=h.find (i:=i) n (by omega) (by omega);exact ⟨j,by omega,h2,h3⟩
structure Iv (vars:List (List iA))(v:Bool)(s:Lw):Prop where
 o0:0<=s.ops
 o1:s.ops<=6000
 bk:∀ b ∈ s.blocks,(b.c.length:Int)<=s.ops
 lb:∀ t ∈ s.labs,t.2.length<=200
 vl:v=true->s.vals.isSome=true
 hn:∀ h ∈ s.hnd,h < s.labs.length
 vw:∀ vs,ix? vars s.f=some vs->∀ x ∈ vs,x.a<=8
def Go' (vars:List (List iA))(v:Bool)(s s':Lw):Prop:=Iv vars v s'/\s.labs.length<=s'.labs.length/\s'.f=s.f/\s'.hnd=s.hnd
section
variable {vars:List (List iA)}{v v' v2:Bool}{α β:Type}{c:LM α}{f:α->LM β}{L H n m p:Nat}
def TT (vars:List (List iA))(v v':Bool)(c:LM α)(L H n m:Nat)(Q:α->Nat->Prop):Prop:=∀ s,Iv vars v s->L<=s.labs.length->s.hnd.length<=H->s.pend.length<=n->∃ q,c s=some q/\∀ a s',q=.ok a s'->Go' vars v' s s'/\s'.pend.length<=m/\Q a s'.labs.length
abbrev q0:α->Nat->Prop:=fun _ _=>True
theorem tB {Q:α->Nat->Prop}{Q':β->Nat->Prop}(h:TT vars v v' c L H n m Q)(k:∀ a K,L<=K->Q a K->TT vars v' v2 (f a) K H m p Q'):TT vars v v2 (c.bind f) L H n p Q':=by
 intro s hi hl hh hp;obtain ⟨q,hq,h2⟩:=h s hi hl hh hp;unfold LM.bind;rw [hq];cases q with
 | lim=>exact ⟨_,rfl,fun a s' e=>by cases e⟩
 | rt=>exact ⟨_,rfl,fun a s' e=>by cases e⟩
 | ok a s1=>
  obtain ⟨⟨g1,g2,g3,g4⟩,g5,g6⟩:=h2 a s1 rfl;obtain ⟨q2,hq2,h3⟩:=k a _ (by omega) g6 s1 g1 (ng _) (by rw [g4];exact hh) g5;refine ⟨q2,hq2,fun b s2 e=>?_⟩;obtain ⟨⟨k1,k2,k3,k4⟩,k5,k6⟩:=h3 b s2 e;exact ⟨⟨k1,rT g2 k2,k3.trans g3,k4.trans g4⟩,k5,k6⟩
theorem xH {a:α}{Q:α->Nat->Prop}(h:∀ K,L<=K->Q a K)(hm:n<=m):TT vars v v (nX a) L H n m Q:=fun s hi hl hh hp=>⟨_,rfl,fun b s' e=>by
 cases e;exact ⟨⟨hi,ng _,rfl,rfl⟩,by omega,h _ hl⟩⟩
theorem Vq {Q:α->Nat->Prop}:TT vars v v' (lrt (α:=α)) L H n m Q:=fun s _ _ _ _=>⟨_,rfl,fun b s' e=>by cases e⟩
theorem CP {l:List β}{k:β->LM α}{Q:α->Nat->Prop}(h:∀ x ∈ l,TT vars v v' (k x) L H n m Q):TT vars v v' (xV l k) L H n m Q:=by
 cases l with
 | nil=>exact Vq
 | cons x l=>exact h x (zH ..)
theorem aby {l:List β}{k:β->LM α}{Q:α->Nat->Prop}(h:∀ x ∈ l,TT vars v v' (k x) L H n m Q):TT vars v v' (YL l k) L H n m Q:=by
 cases l with
 | nil=>exact Vq
 | cons x l=>
  cases l with
  | nil=>exact Vq
  | cons y l=>exact h y (xQ _ (zH ..))
theorem rH {p:Prop}[Decidable p]{a b:LM α}{Q:α->Nat->Prop}(h:p->TT vars v v' a L H n m Q)(k:¬ p->TT vars v v' b L H n m Q):TT vars v v' (if p then a else b) L H n m Q:=by
 split
 · exact h ‹_›
 · exact k ‹_›
theorem Ky {s s':Lw}(hi:Iv vars v s)(h1:s'.ops=s.ops)(h2:s'.blocks=s.blocks)(h3:s'.labs=s.labs)(h4:s'.vals=s.vals)(h5:s'.hnd=s.hnd)(h6:s'.f=s.f):Go' vars v s s':=
 ⟨⟨by rw [h1];exact hi.o0,by rw [h1];exact hi.o1,by rw [h1,h2];exact hi.bk,by rw [h3];exact hi.lb,by rw [h4];exact hi.vl,by rw [h5,h3];exact hi.hn,by rw [h6];exact hi.vw⟩,by rw [h3];exact ng _,h6,h5⟩
end
theorem Ei {α:Type}{a b:List α}(h:a.length+b.length<=1000000000):app a b=some (a ++ b):=by unfold app;rw [lX h]
section
variable {vis:Int->Int->Option (List Int)}{vars:List (List iA)}{v:Bool}{L H n:Nat}
theorem JI {l:List pR}(hl:l.length<=1000):TT vars v v (lop l) L H n n q0:=by
 intro s hi hL hh hp;unfold lop;have h0:=hi.o0;have h1:=hi.o1;have hw:wr (s.ops+l.length)=s.ops+l.length:=by unfold wr;rw [Uo (by omega) (by omega)]
 rw [hw];by_cases c:6000 < s.ops+l.length
 · rw [lX c];exact ⟨_,rfl,fun a s' e=>by cases e⟩
 rw [lW c];cases hb:ix? s.blocks s.blk with
 | none=>exact ⟨_,rfl,fun a s' e=>by cases e⟩
 | some b=>
   have hm:b ∈ s.blocks:=xu (ix?_at hb);have hbl:=hi.bk b hm;dsimp only;rw [Ei (by omega)];refine ⟨_,rfl,fun a s' e=>?_⟩;cases e;refine ⟨⟨⟨by show (0:Int)<=s.ops+l.length;omega,by show s.ops+l.length<=(6000:Int);omega,fun x hx=>?_,hi.lb,hi.vl,hi.hn,hi.vw⟩,ng _,rfl,rfl⟩,hp,trivial⟩;show (x.c.length:Int)<=s.ops+l.length;rcases GX hx with hx | rfl
   · have:=hi.bk x hx;omega
   · simp only [Ic];omega
theorem Gj {o:pR}:TT vars v v (Jw o) L H n n q0:=fun s hi hL hh hp=>by have h:=tB (f:=fun (_:Unit)=>nX s.next) (JI (v:=v) (vars:=vars) (L:=L) (H:=H) (n:=n) (l:=[{ o with e:=s.next }]) (by simp)) (fun a K _ _=>xH (Q:=q0) (fun _ _=>trivial) (ng _));exact h { s with next:=wr (s.next+1) } ⟨hi.o0,hi.o1,hi.bk,hi.lb,hi.vl,hi.hn,hi.vw⟩ hL hh hp
theorem Av {k:Int}:TT vars v v (vI k) L H n n q0:=Gj
theorem EX {k:Int}(hn:n<=1000000):TT vars v v (DW k) L H n (n+1) q0:=fun s hi hL hh hp=>by unfold DW;rw [Ei (by simp;omega)];refine ⟨_,rfl,fun a s' e=>?_⟩;cases e;exact ⟨Ky hi rfl rfl rfl rfl rfl rfl,by simp;omega,trivial⟩
theorem IQ:TT vars v v E9 L H (n+1) n q0:=fun s hi hL hh hp=>by
 unfold E9;split
 · exact ⟨_,rfl,fun a s' e=>by cases e⟩
 · refine ⟨_,rfl,fun a s' e=>?_⟩;cases e;exact ⟨Ky hi rfl rfl rfl rfl rfl rfl,by simp;omega,trivial⟩
theorem SH:TT vars v v I5 L H n n q0:=fun s hi hL hh hp=>by
 unfold I5;split
 · exact ⟨_,rfl,fun a s' e=>by cases e⟩
 · refine ⟨_,rfl,fun a s' e=>?_⟩;cases e;exact ⟨Ky hi rfl rfl rfl rfl rfl rfl,hp,trivial⟩
theorem G6 {p:Pc}{k:Int}:TT vars true true (Bb p k) L H n n q0:=fun s hi hL hh hp=>by unfold Bb;obtain ⟨l,hl⟩:=Option.isSome_iff_exists.1 (hi.vl rfl);rw [hl];obtain ⟨q,hq,h⟩:=JI (vars:=vars) (v:=true) (L:=L) (H:=H) (n:=n) (l:=[⟨21,0,0,0,0,0,p.1,p.2,⟨2,k,0⟩⟩]) (by simp) { s with vals:=some (Ay l p k) } ⟨hi.o0,hi.o1,hi.bk,hi.lb,fun _=>rfl,hi.hn,hi.vw⟩ hL hh hp;exact ⟨q,hq,h⟩
theorem VW:TT vars v v TV L H n n q0:=fun s hi hL hh hp=>JI (l:=[⟨20,0,0,0,s.stmt,0,0,0,wN⟩]) (by simp) s hi hL hh hp
theorem S9:TT vars v v GZ L H n n q0:=fun s hi hL hh hp=>JI (l:=[⟨19,0,0,0,s.stmt,0,0,0,wN⟩]) (by simp) s hi hL hh hp
theorem RG {vs:Option (List iA)}(h:∀ l,vs=some l→∀ x ∈ l,x.a≤8):∀ (l:List Int)(acc:List Pc),acc.length+8 * l.length≤200→∃ r,LZ vs l acc=some r∧∀ ps,r=some ps→ps.length≤200
 | [],acc,ha=>⟨_,rfl,fun ps e=>by cases e;simp at ha;exact ha⟩
 | k :: l,acc,ha=>by
  rw [LZ];cases hx:vs.bind fun vs=>ix? vs k with
  | none=>exact ⟨_,rfl,fun ps e=>by cases e⟩
  | some x=>
   obtain ⟨l2,hl2,hx⟩:=bs hx;have hw:=h l2 hl2 x (xu (ix?_at hx));simp only [uX] at ha;dsimp only;by_cases c:x.b=3
   · rw [lX c];exact RG h l acc (by omega)
   · rw [lW c,Ei (by simp;omega)];exact RG h l _ (by simp;omega)
theorem vH (hV:∀ f st,∃ l,vis f st=some l/\l.length<=25){stm:Int}:TT vars v v (rU vis vars stm) L H n n fun a K=>a < K:=fun s hi hL hh hp=>by
 unfold rU;obtain ⟨l,hl,hlen⟩:=hV s.f stm;rw [hl];obtain ⟨r,hr,hps⟩:=RG (vs:=ix? vars s.f) hi.vw l [] (by simp;omega);rw [Option.bind_some,hr];cases r with
 | none=>exact ⟨_,rfl,fun a s' e=>by cases e⟩
 | some ps=>
  refine ⟨_,rfl,fun a s' e=>?_⟩;cases e;refine ⟨⟨⟨hi.o0,hi.o1,hi.bk,fun t ht=>?_,hi.vl,fun h hh=>?_,hi.vw⟩,by simp,rfl,rfl⟩,hp,by simp⟩
  · rcases qN.1 ht with ht | ht
    · exact hi.lb t ht
    · rw [List.mem_singleton.1 ht];exact hps ps rfl
  · have:=hi.hn h hh;simp;omega
theorem MG {i:Nat}(hi0:i < L):TT vars v v (wo i) L H n n q0:=fun s hi hL hh hp=>by
 unfold wo;obtain ⟨t,ht⟩:∃ t,s.labs[i]?=some t:=⟨_,List.getElem?_eq_getElem (by omega)⟩;rw [ht];dsimp only [Option.bind_some];split
 · refine ⟨_,rfl,fun a s' e=>?_⟩;cases e;exact ⟨Ky hi rfl rfl rfl rfl rfl rfl,hp,trivial⟩
 split
 · exact ⟨_,rfl,fun a s' e=>by cases e⟩
 refine ⟨_,rfl,fun a s' e=>?_⟩;cases e;refine ⟨⟨⟨hi.o0,hi.o1,fun b hb=>?_,fun x hx=>?_,hi.vl,fun h hh=>?_,hi.vw⟩,by simp,rfl,rfl⟩,hp,trivial⟩
 · rcases qN.1 hb with hb | hb
   · exact hi.bk b hb
   · rw [List.mem_singleton.1 hb];exact hi.o0
 · rcases GX hx with hx | rfl
   · exact hi.lb x hx
   · exact hi.lb t (xu ht)
 · have:=hi.hn h hh;simpa using this
end
section
variable {vis:Int->Int->Option (List Int)}{vars:List (List iA)}{v:Bool}{L H n m:Nat}
theorem xZ {i:Nat}{l:List Int}(hi:i < L)(hl:l.length<=10):TT vars true true (xR i l) L H n n fun e _=>e.a.length<=300:=
 tB (MG hi) fun _ K hK _ s hv hL hh hp=>by obtain ⟨t,ht⟩:∃ t,s.labs[i]?=some t:=⟨_,List.getElem?_eq_getElem (by omega)⟩;obtain ⟨vs,hvs⟩:=Option.isSome_iff_exists.1 (hv.vl rfl);have:=hv.lb t (xu ht);rw [ht,Option.bind_some,hvs,Option.bind_some,Ei (by simp;omega)];refine ⟨_,rfl,fun a s' e=>?_⟩;cases e;exact ⟨Ky hv rfl rfl rfl rfl rfl rfl,hp,by simp;omega⟩
theorem OO:∀ {L:Nat}{l:List Pc}{k:Int}{i:Nat},TT vars true true (Et l k i) L H n n q0
 | _,[],_,_=>xH (fun _ _=>trivial) (ng _)
 | _,p :: l,k,i=>tB G6 fun _ K hK _=>OO
theorem VD {s:Lw}{b b':nk}{k:Int}(h:∀ b ∈ s.blocks,(b.c.length:Int)<=s.ops)(hb:ix? s.blocks k=some b)(hE:b'.c=b.c):∀ x ∈ s.blocks.set k.toNat b',(x.c.length:Int)<=s.ops:=fun x hx=>by
 rcases GX hx with hx | rfl
 · exact h x hx
 · rw [hE];exact h b (xu (ix?_at hb))
theorem vK {i:Nat}{k:Int}(hi:i < L):TT vars v true (oD i k) L H n n q0:=fun s hv hL hh hp=>by
 obtain ⟨t,ht⟩:∃ t,s.labs[i]?=some t:=⟨_,List.getElem?_eq_getElem (by omega)⟩;unfold oD;rw [ht,Option.bind_some];dsimp only;split
 · exact ⟨_,rfl,fun a s' e=>by cases e⟩
 split
 · exact ⟨_,rfl,fun a s' e=>by cases e⟩
 rename_i b hb;exact (tB (OO (L:=L) (H:=H) (n:=n)) fun _ K hK _ s hv hL hh hp=>⟨_,rfl,fun a s' e=>by
   cases e;exact ⟨Ky hv rfl rfl rfl rfl rfl rfl,by simp;omega,trivial⟩⟩) { s with blk:=t.1,opn:=true,next:=_,blocks:=s.blocks.set t.1.toNat { b with a:=_ },vals:=some [] } ⟨hv.o0,hv.o1,VD hv.bk hb rfl,hv.lb,fun _=>rfl,hv.hn,hv.vw⟩ hL hh hp
theorem Iw {t:zl}:TT vars v v (lend t) L H n n q0:=fun s hv hL hh hp=>by
 unfold lend;split
 · exact ⟨_,rfl,fun a s' e=>by cases e⟩
 rename_i b hb;refine ⟨_,rfl,fun a s' e=>?_⟩;cases e;exact ⟨⟨⟨hv.o0,hv.o1,VD hv.bk hb rfl,hv.lb,hv.vl,hv.hn,hv.vw⟩,ng _,rfl,rfl⟩,hp,trivial⟩
theorem ES {i:Nat}(hi:i < L):TT vars true true (xL i) L H n n q0:=fun s hv hL hh hp=>by
 unfold xL;split
 · exact (tB (xZ hi (by simp)) fun _ K hK _=>Iw) s hv hL hh hp
 · exact xH (Q:=q0) (fun _ _=>trivial) (ng _) s hv hL hh hp
theorem OI {k:Int}:TT vars v v (DZ k) L H n n q0:=Iw
theorem EO {k:Int}{a b:uD}:TT vars v v (Cx k a b) L H n n q0:=Iw
theorem Qo {k:Int}:TT vars true true (zn k) L H n n q0:=fun s hv hL hh hp=>by
 unfold zn;split
 · rename_i h hh2;exact (tB (xZ (L:=s.labs.length) (hv.hn h (List.mem_of_getLast? hh2)) (by simp)) fun _ K hK _=>Iw) s hv (ng _) hh hp
 · exact Iw s hv hL hh hp
theorem WB {k:uD->LM Unit}(h:∀ e K,L<=K->TT vars true true (k e) K H n m q0):TT vars true true (Er k) L H n m q0:=fun s hv hL hh hp=>by
 unfold Er;split
 · rename_i h' hh2;exact (tB (xZ (L:=s.labs.length) (hv.hn h' (List.mem_of_getLast? hh2)) (by simp)) fun e K hK _=>h e K (by omega)) s hv (ng _) hh hp
 · exact h _ L (ng _) s hv hL hh hp
theorem F6 {k:Int}(hn:n<=1000000):TT vars v v (Ce k) L H (n+2) (n+1) q0:=tB IQ fun _ _ _ _=>tB IQ fun _ _ _ _=>tB Gj fun _ _ _ _=>EX hn
theorem Pz {i:Nat}(hi:i < L)(hn:n<=1000000):TT vars true true (JE i) L H n n q0:=tB (xZ hi (by simp)) fun e K hK he s hv hL hh hp=>by rw [Ei (by omega)];refine ⟨_,rfl,fun a s' e=>?_⟩;cases e;exact ⟨Ky hv rfl rfl rfl rfl rfl rfl,hp,trivial⟩
theorem Mx {i:Nat}(hi:i < L):TT vars v true (GI i) L H n n q0:=tB (vK hi) fun _ _ _ _=>VW
theorem Qc {i:Nat}{k:Int}(hi:i < L):TT vars v true (FQ i k) L H n n q0:=fun s hv hL hh hp=>by
 have h:=tB (vK (vars:=vars) (v:=v) (L:=L) (H:=H) (n:=0) (k:=0) hi) fun _ _ _ _=>tB VW fun _ _ _ _=>tB (Av (k:=k)) fun c _ _ _=>Qo (k:=c);obtain ⟨q,hq,h2⟩:=h { s with pend:=[] } ⟨hv.o0,hv.o1,hv.bk,hv.lb,hv.vl,hv.hn,hv.vw⟩ hL hh (ng _);have hb:FQ i k s=q.then fun _ s'=>some (.ok () { s' with pend:=s.pend }):=by
  have e:((oD i 0 |>.bind fun _=>TV |>.bind fun _=>vI k |>.bind fun c=>zn c).bind fun _ s'=>some (.ok () { s' with pend:=s.pend })) { s with pend:=[] }=q.then fun _ s'=>some (.ok () { s' with pend:=s.pend }):=by show Option.bind _ _=_;rw [hq];rfl
  rw [<-e];have hba:∀ {α β γ:Type}{mm:LM α}{k:α->LM β}{j:β->LM γ},(mm.bind k).bind j=mm.bind fun a=>(k a).bind j:=fun {α β γ mm k j}=>funext fun s=>by
   unfold LM.bind;cases mm s with
   | none=>rfl
   | some q=>cases q <;> rfl
  rw [hba,show (fun a=>LM.bind (TV.bind fun _=>(vI k).bind fun c=>zn c) fun _ s'=>some (Lo.ok () { s' with pend:=s.pend }))=fun (_:Unit)=>TV.bind fun _=>(vI k).bind fun c=>(zn c).bind fun _ s'=>some (.ok () { s' with pend:=s.pend }) from funext fun _=>by rw [hba];congr 1;exact funext fun _=>hba];rfl
 rw [hb];cases q with
 | lim=>exact ⟨_,rfl,fun a s' e=>by cases e⟩
 | rt=>exact ⟨_,rfl,fun a s' e=>by cases e⟩
 | ok a s1=>
  obtain ⟨⟨g1,g2,g3,g4⟩,_⟩:=h2 a s1 rfl;refine ⟨_,rfl,fun a s' e=>?_⟩;cases e;exact ⟨⟨⟨g1.o0,g1.o1,g1.bk,g1.lb,g1.vl,g1.hn,g1.vw⟩,g2,g3,g4⟩,hp,trivial⟩
theorem NZ {β:Type}{k:Nat->LM β}{Q:β->Nat->Prop}{v':Bool}(hV:∀ f st,∃ l,vis f st=some l/\l.length<=25)(h:∀ a K,L<=K->a < K->TT vars v v' (k a) K H n m Q):TT vars v v' (QE vis vars k) L H n m Q:=fun s hv hL hh hp=>(tB (vH hV) h) s hv hL hh hp
theorem U6 (hV:∀ f st,∃ l,vis f st=some l/\l.length<=25)(hn:n<=1000000):TT vars true true (Nh vis vars) L H n n q0:=tB SH fun d _ _ _=>NZ hV fun next K1 h1 hN=>NZ hV fun fault K2 h2 hF=>tB (Pz (by omega) hn) fun _ K3 h3 _=>
 tB (xZ (by omega) (by simp)) fun _ K4 h4 _=>tB EO fun _ K5 h5 _=>tB (Qc (by omega)) fun _ K6 h6 _=>Mx (by omega)
theorem Vl {β:Type}{i:Int}{k:iA->LM β}{Q:β->Nat->Prop}{v':Bool}(h:∀ x,x.a<=8->TT vars v v' (k x) L H n m Q):TT vars v v' (Qv vars i k) L H n m Q:=fun s hv hL hh hp=>by
 unfold Qv;split
 · exact ⟨_,rfl,fun a s' e=>by cases e⟩
 · rename_i x hx;obtain ⟨l,hl,hx⟩:=bs hx;exact h x (hv.vw l hl x (xu (ix?_at hx))) s hv hL hh hp
theorem R7 {β:Type}{i:Int}{k:Int->LM β}{Q:β->Nat->Prop}{v':Bool}(h:∀ n',TT vars v v' (k n') L H n m Q):TT vars v v' (O1 i k) L H n m Q:=fun s hv hL hh hp=>h _ s hv hL hh hp
theorem Qi (hV:∀ f st,∃ l,vis f st=some l/\l.length<=25){ex:jB->LM Unit}{x:jB}(hn:n<=100000)(h:∀ y ∈ x.a,TT vars true true (ex y) L H n (n+1) q0):TT vars true true (IG vis vars ex x) L H n (n+1) q0:=
 tB (CP h) fun _ K0 h0 _=>tB SH fun _ _ _ _=>tB Av fun _ _ _ _=>tB Gj fun _ K1 h1 _=>Vl fun _ _=>tB Av fun _ _ _ _=>tB Gj fun _ _ _ _=>tB Gj fun _ K2 h2 _=>
 NZ hV fun next K3 h3 hN=>NZ hV fun fault K4 h4 hF=>tB (xZ (by omega) (by simp)) fun _ K5 h5 _=>tB (Pz (by omega) (by omega)) fun _ K6 h6 _=>tB EO fun _ K7 h7 _=>tB (Qc (by omega)) fun _ K8 h8 _=>Mx (by omega)
def XD:Nat→jB→Prop
 | 0,_=>False
 | d+1,e=>∀ y ∈ e.a,XD d y
theorem H7 (hV:∀ f st,∃ l,vis f st=some l∧l.length≤25):∀ (fu d:Nat)(e:jB)(L H n:Nat),XD d e→d≤fu→n+d≤100000→TT vars true true (lexpr vis vars fu e) L H n (n+1) q0
 | 0,0,_,_,_,_,h,_,_=>h.elim
 | 0,d+1,_,_,_,_,_,h,_=>by omega
 | fu+1,0,_,_,_,_,h,_,_=>h.elim
 | fu+1,d+1,e,L,H,n,h,hd,hn=>by
  have ih:∀ (L n:Nat),n+d<=100000->∀ y ∈ e.a,TT vars true true (lexpr vis vars fu y) L H n (n+1) q0:=fun L n hn y hy=>H7 hV fu d y L H n (h y hy) (by omega) hn;unfold lexpr;refine rH (fun _=>tB Av fun _ _ _ _=>EX (by omega)) fun _=>rH (fun _ s hv hL hh hp=>?_) fun _=>rH (fun _=>tB (Qi hV (by omega) (ih _ n (by omega))) fun _ _ _ _=>tB IQ fun _ _ _ _=>R7 fun _=>tB Gj fun _ _ _ _=>EX (by omega)) fun _=>
   rH (fun _=>tB (tB Av fun _ _ _ _=>EX (by omega)) fun _ _ _ _=>tB (CP (ih _ (n+1) (by omega))) fun _ _ _ _=>F6 (by omega)) fun _=>rH (fun _=>tB (CP (ih _ n (by omega))) fun _ _ _ _=>tB (tB Av fun _ _ _ _=>EX (by omega)) fun _ _ _ _=>F6 (by omega)) fun _=>
   tB (CP (ih _ n (by omega))) fun _ _ _ _=>tB (aby (ih _ (n+1) (by omega))) fun _ _ _ _=>tB (rH (fun _=>U6 hV (by omega)) fun _=>xH (Q:=q0) (fun _ _=>trivial) (ng _)) fun _ _ _ _=>F6 (by omega)
  obtain ⟨vs,hvs⟩:=Option.isSome_iff_exists.1 (hv.vl rfl);rw [hvs];exact EX (by omega) s hv hL hh hp
end
end Go.Proofs.YtdkneekpdecjbaaGreat
