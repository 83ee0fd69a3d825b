/- Lower. -/
import Derived.Test.YtdkneekpdecjbaaGreatZ17
import Derived.Test.YtdkneekpdecjbaaGreatZ5
import Derived.Test.YtdkneekpdecjbaaGreatZ13
import Derived.Test.YtdkneekpdecjbaaGreatZ6
set_option linter.unusedVariables false
set_option maxRecDepth 4000
set_option maxHeartbeats 12800000
namespace Go.Proofs.YtdkneekpdecjbaaGreat
open Go.RowKit Go.Fw Go.Proofs.Tryz
noncomputable def rV (fu:Nat)(s:jW):Option (uJ × Int):=(Ur fu (jT fu) s).map fun p=>(⟨p.1⟩,p.2)
abbrev cK (s:Lw)(m:yV):List Value:=[V s.a,.slice m.bA s.blocks.length m.bC,.slice m.cA s.ctxs.length m.cC,.slice m.oA s.objs.length m.oC]
theorem ab9 {ρ:Operand->Value}{w:World}{d:Option Nat}{ty:TypeId}{pos:String}{af:Array Edge}{g:Option (Nat × Bool)}{x:Operand}{n:Int}{a1 a2 a3:Option Addr}{n1 c1 n2 c2 n3 c3:Nat}(h:ρ x=.agg #[V n,.slice a1 n1 c1,.slice a2 n2 c2,.slice a3 n3 c3]):(execOp ρ ⟨d,.buildSlice 34 1 #[(0,x)],ty,pos,af,g⟩).run prog w=.ok (.value (.slice (some ⟨w.heap.size,0,none⟩) 1 1)) (w.alloc (.cells #[V n,.slice a1 n1 c1,.slice a2 n2 c2,.slice a3 n3 c3] 52)):=by
 have e:(Instr.buildSlice 34 1 #[(0,.agg #[V n,.slice a1 n1 c1,.slice a2 n2 c2,.slice a3 n3 c3])]).run prog w=.ok (.slice (some ⟨w.heap.size,0,none⟩) 1 1) (w.alloc (.cells #[V n,.slice a1 n1 c1,.slice a2 n2 c2,.slice a3 n3 c3] 52)):=by kernel_rfl
 simp [execOp,h,e]
theorem X4 {A G:Nat->Prop}{L:List It}{D:List Da}{w0 w:World}{b2 b3:Nat}(b:Bx w0 w A G L D) :CallsD prog 23 #[Pt b2,Pt b3] .returning w (RD .returning (fun w'=>Bx w0 w' A G L D) (fun _ _=>False)):=by refine Jk (u:=.returning) (v:=.nilIface) func23 rfl rfl rfl (abS _ rfl) ?_;refine lH [(0,Pt b2),(1,Pt b3),(2,.nilIface)] ⟨rfl,rfl,rfl,trivial⟩ fun av=>?_;refine FY (xG ?_);refine kT (Vn .nilIface rfl) ?_;refine kT (Yk underlying20 rfl rfl (.inl ⟨rfl,rfl⟩)) ?_;refine jY b ?_;exact b
theorem SV {w:World}{b o:Nat}{t:TypeId}{cs:Array Value}{l:List Value}(h:tY w b t cs)(hl:∀ j v,l[j]?=some v->cs[o+j]?=some v):Cells w b o l:=fun j v hv=>h.cell (hl j v hv)
theorem D9 (fu:Nat):JC (rV fu):=by
 intro w0 Y s a1 c1 a2 c2 a3 c3 a4 c4 R hP hM;have b:=hP.bx;clear hP;have hZ:∀ b,mQ [] b->Y b:=fun b ⟨it,h,_⟩=>by cases h
 generalize hG:mQ []=G at b hZ ⊢;obtain ⟨q,hM2,rfl⟩:=Option.map_eq_some_iff.1 hM;clear hM;have hM:Ej (jT fu s) s fu s.a.b.length 0 []=some q:=hM2;clear hM2;have hbd:=(b.dl 1 rfl).bd
 have key:Calls prog 11 #[.agg #[.slice a1 s.a.a.length c1,.slice a2 s.a.b.length c2,.slice a3 s.c.length c3,.slice a4 s.b.length c4]] w0
    (RP (fun v w'=>∃ (j:Option Addr)(k:Nat),v=.tuple #[.agg #[.slice j q.1.length k],V q.2]/\Bx w0 w' Y G [] [.l j k q.1]) (fun _ _=>False)):=by
  refine Sv func11 rfl ?_;refine YH [(0,.agg #[.slice a1 s.a.a.length c1,.slice a2 s.a.b.length c2,.slice a3 s.c.length c3,.slice a4 s.b.length c4])] ⟨rfl,trivial⟩ fun av=>?_;refine acX (xG ?_);refine Wx b (uM rfl) fun w1 b1 b=>?_;refine Wx b (jP Ll) fun w2 b2 b=>?_;refine Wx b (jP O0) fun w3 b3 b=>?_;refine M6 ?_;replace b:=(b.EK qE 52).ad [3,2,1,0] [0,1,2,3,4];have b:Bx w0 w3 Y G [.box b1 30 #[.slice a1 s.a.a.length c1,.slice a2 s.a.b.length c2,.slice a3 s.c.length c3,.slice a4 s.b.length c4],.box b2 36 (cM none 0 0).toArray,.box b3 37 #[V 0],.own w0.heap.size none 0 52 (Rp.sz qE) []] [.els [] ([]:List qE),.l a1 c1 s.a.a,.l a2 c2 s.a.b,.l a3 c3 s.c,.l a4 c4 s.b]:=b;refine YH [(1,Pt b1),(2,Pt b2),(3,Pt b3)] ⟨rfl,rfl,rfl,trivial⟩ fun av2=>?_;refine Zw (adX (vs:=[Pt b2,Pt b3]) rfl) (ada rfl) ?_;refine abg (Q:=⟨fun _ _=>False,fun _ _ _=>False,fun f w'=>(f 2=Pt b2/\f 3=Pt b3)/\∃ A c,q.2=0/\Bx w0 w' Y G [.box b2 36 (cM A q.1.length c).toArray,.box b3 37 #[V 0]] [.l A c q.1],
    fun f ch w'=>(f 2=Pt b2/\f 3=Pt b3)/\(∃ e x l,q=([],e)/\ch=⟨x,false,false⟩ :: l/\(∀ e ∈ l,e.goexit=false)/\abf x e)/\∃ A n c,Bx w0 w' Y G [.box b2 36 (cM A n c).toArray,.box b3 37 #[V 0]] []⟩) ?_ ?_
  · refine jY b ?_
    refine kM (fun aw f w'=>∃ (j:Nat)(A:Option Addr)(c:Nat)(cs:List (List Value))(acc:List qE),aw=s.a.b.length - j∧j≤s.a.b.length∧Has f [(1,Pt b1),(2,Pt b2),(3,Pt b3),(10,V (s.a.b.length:Int)),(11,V (j:Int))]∧
        Bx w0 w' Y G [.box b1 30 #[.slice a1 s.a.a.length c1,.slice a2 s.a.b.length c2,.slice a3 s.c.length c3,.slice a4 s.b.length c4],.box b2 36 (cM A acc.length c).toArray,.box b3 37 #[V 0],.own w0.heap.size A c 52 (Rp.sz qE) cs] [.els cs acc,.l a1 c1 s.a.a,.l a2 c2 s.a.b,.l a3 c3 s.c,.l a4 c4 s.b]/\
        Ej (jT fu s) s fu (s.a.b.length - j) j acc=some q)
      s.a.b.length ⟨0,none,0,[],[],rfl,uS _,⟨rfl,rfl,rfl,rfl,rfl,trivial⟩,b,hM⟩ ?_
    clear b hM;rintro aw f w4 ⟨j,A,c,cs,acc,rfl,hj,hf,b,hM⟩ J hJ;obtain ⟨av3,rfl⟩:=nV _ _ hf;clear hf;refine jY b ?_;refine rP rfl (fun hlt=>?_) (fun hlt=>?_)
    · obtain ⟨k,hk⟩:∃ k,s.a.b.length - j=k+1:=⟨s.a.b.length - j - 1,by omega⟩;rw [hk,Ej] at hM;obtain ⟨lo,hlo,hM⟩:=bs hM;refine jY b ?_;refine kT (sZ [.slice a1 s.a.a.length c1,.slice a2 s.a.b.length c2,.slice a3 s.c.length c3,.slice a4 s.b.length c4] underlying30 zh rfl (b.bk 0 rfl)) ?_;refine jY b ?_;refine l5 (YI b TR Vp underlying86) ?_;rintro _ w5 ⟨ob,rfl,b⟩;refine kT (Dj (v:=.agg (Dk ⟨w0.heap.size,0,ob,⟨a1,c1,a2,c2,a3,c3,a4,c4⟩,s⟩ m0 (PV j)).toArray) rfl (by kernel_rfl)) ?_;refine Wx b (uM rfl) fun w6 lb b=>?_;refine jY b ?_;replace b:=XJ (R:=⟨w0.heap.size,lb,ob,⟨a1,c1,a2,c2,a3,c3,a4,c4⟩,s⟩) (f:=j) b;have hcall:=YN (R:=⟨w0.heap.size,lb,ob,⟨a1,c1,a2,c2,a3,c3,a4,c4⟩,s⟩) (g:=24) (args:=#[Pt lb]) (mm:=OD (jT fu s) s fu) (m:=m0) (s:=PV j) Ui b hZ (nJ _) hlo;refine sCP (jJ acB rfl) hcall (fun ch w' h=>?_) ?_
      · obtain ⟨h1,h2⟩:=h;refine ⟨⟨rfl,rfl⟩,?_,A,acc.length,c,h2.ad [1,2] []⟩;cases lo with
        | ok a s'=>exact h1.elim
        | lim=>
          cases hM;obtain ⟨l,rfl,hl⟩:=h1;exact ⟨5,_,l,rfl,rfl,hl,.inl ⟨rfl,rfl⟩⟩
        | rt=>
          cases hM;obtain ⟨u,l,rfl,hl⟩:=h1;exact ⟨4,_,l,rfl,rfl,hl,.inr ⟨_,_,rfl,by decide,rfl⟩⟩
      rintro _ w7 ⟨s',m',rfl,rfl,b⟩;dsimp only at hM;obtain ⟨acc2,hacc,hM⟩:=bs hM;replace b:=Xt b hZ;refine jY b ?_;refine EN b [7,9] fun b=>?_;refine AP b ?_;refine wu 1 rfl ?_;refine dU (v:=.slice A acc.length c) (fun hu=>yL rfl (hu.bk 2 rfl) rfl rfl rfl) (jH kJ b) ?_;refine AP b ?_;refine wu 5 rfl ?_;refine dU (fun hu=>jQ (cK s' m') underlying52 rfl P5 rfl rfl (SV (hu.bk 0 rfl) fun j v h=>?_)) (jH kJ b) ?_
      · rcases j with _ | _ | _ | _ | j
        · exact h
        · exact h
        · exact h
        · exact h
        · simp at h
      refine hO 6 (oo rfl rfl (jM b [cK s' m'] ([s'.code]:List qE) (ab9 rfl) rfl rfl (by decide) ⟨qE.inn ⟨m'.bA,m'.bC,m'.cA,m'.cC,m'.oA,m'.oC,rfl,b.d 0 rfl,b.d 1 rfl,b.d 2 rfl⟩,trivial⟩) ?_);rintro _ w8 ⟨b6,rfl,b⟩;refine ⟨jH kJ (b.tl.zQ fun d hd=>yT _ hd),hO 7 (oo rfl rfl (kR (α:=qE) b 5 4 rfl rfl underlying34 P5 rfl (by decide) (by decide) (nJ _) rfl rfl (b.BU 0 0 rfl rfl) hacc) ?_)⟩;rintro _ w9 ⟨A2,k2,cs2,rfl,b⟩;refine ⟨sy 7 kJ,?_⟩;refine wu 8 rfl ?_;refine dP (yF rfl rfl rfl rfl) (sy 7 kJ) ?_;refine hO 9 (os rfl rfl (t_n b 3 [.slice A2 acc2.length k2] rfl abU rfl rfl) fun w10 b=>⟨sy 9 kJ,hD ?_⟩);replace b:=b.ad [2,3,4,5] [4,5,6,7,8];refine jY b ?_;exact hJ (s.a.b.length - (j+1)) _ _ (by omega) ⟨j+1,A2,k2,cs2,acc2,rfl,by omega,⟨rfl,rfl,rfl,rfl,congrArg V (TJ (by omega)),trivial⟩,b,by rw [show s.a.b.length - (j+1)=k by omega];exact hM⟩
    · obtain rfl:j=s.a.b.length:=by omega
      rw [Nat.sub_self,Ej] at hM;cases hM;refine jY b ?_;refine vE ?_;refine jY b ?_;refine kT (sZ (cM A acc.length c) underlying36 Ll rfl (b.bk 1 rfl)) ?_;refine lg (Fv b 1 (cM A acc.length c) rfl Ll rfl rfl) fun w5 b=>?_;refine lg (t_n b 2 [V 0] rfl O0 rfl rfl) fun w6 b=>?_;refine jY b ?_;refine lS ?_;exact ⟨⟨rfl,rfl⟩,A,c,rfl,(b.Jt hZ 3 0 rfl rfl).ad [1,2] [0]⟩
  · have fin:∀ {f:Fr}{w':World}{A:Option Addr}{c:Nat},f 2=Pt b2→f 3=Pt b3→Bx w0 w' Y G [.box b2 36 (cM A q.1.length c).toArray,.box b3 37 #[V q.2]] [.l A c q.1]→
        Reads prog f11 (fun v w'=>∃ (j:Option Addr)(k:Nat),v=.tuple #[.agg #[.slice j q.1.length k],V q.2]/\Bx w0 w' Y G [] [.l j k q.1]) f w':=fun {f w' A c} h2 h3 b=>by
      refine Cc (fn:=f11) rfl (rdC h2 (fun ρ h=>sZ (cM A q.1.length c) underlying36 Ll h (b.bk 0 rfl)) (b.bk 0 rfl)) (rdC h3 (fun ρ h=>kC underlying37 rfl h ((b.bk 1 rfl).cell rfl)) (b.bk 1 rfl)) ?_;exact ⟨A,c,rfl,b.ad [] [0]⟩
    intro e a1' w1' q';cases e with
    | normal=>obtain ⟨f,h1,h2⟩:=q';exact h2.elim
    | exit i=>obtain ⟨f,h1,h2⟩:=q';exact h2.elim
    | ret=>
      obtain ⟨f,h1,⟨h12,h13⟩,A,c,he,b⟩:=q';show Leaves prog f11 a1'.tmps _ a1'.defers .returning w1';rw [h1.dfr];exact Pd rfl rfl (X4 b) (fun w2 b=>fin h12 h13 (by rw [he];exact b)) h1
    | panic ch=>
      obtain ⟨f,h1,⟨h12,h13⟩,⟨e,x,l,rfl,rfl,hl,hE⟩,A,n,c,b⟩:=q';show Leaves prog f11 a1'.tmps _ a1'.defers (.panicking _) w1';rw [h1.dfr];exact QG rfl rfl hl (Xc b hE) (fun w2 b=>fin h12 h13 (b.jZ (d:=.l none 0 ([]:List qE)) ku.nil)) (fun c w' h=>h.elim) h1
    | _=>exact q'.elim
 exact key.mono fun e w he=>by
  cases e with
  | returned v=>exact ⟨v,rfl,he⟩
  | panicked c=>exact he.elim
  | outgrown=>exact he.elim
set_option linter.unusedSimpArgs false
noncomputable section
def MX (m:uJ->Int->Option Int):Prop:=∀ {c h}{d:uJ}{e a b f},Pre c h [] [.l a b d.b]->m d e=some f-> Calls prog 19 #[.agg #[Z a d.b b],V e] c (sW fun v w=>v=V f/\Bx c w h (mQ []) [] [])
def oQ (fu:Nat)(e:Int):List HY→Nat→Int→Option (Ld (Int) (Int))
 | [],_,a=>some (.go a)
 | d :: b,c,a=>
 if d.c=19 then
  if d.N=e then
   oQ fu e b (c+1) (wr (a+1))
  else
   oQ fu e b (c+1) a
 else
  oQ fu e b (c+1) a
def p9 (fu:Nat)(c:Int):List nK→Nat→Int→Option (Ld (Int) (Int))
 | [],_,a=>some (.go a)
 | d :: e,f,a=>
 (oQ fu c d.c 0 a).bind fun h=>h.el (fun b=>
 p9 fu c e (f+1) b
 ) (fun o=>some (.out o))
def qc (fu:Nat)(c:Int):List qE→Nat→Int→Option (Ld (Int) (Int))
 | [],_,a=>some (.go a)
 | d :: e,f,a=>
 (p9 fu c d.b 0 a).bind fun h=>h.el (fun b=>
 qc fu c e (f+1) b
 ) (fun o=>some (.out o))
def zS (fu:Nat)(b:uJ)(c:Int):Option Int:=(qc fu c b.b 0 0).bind fun d=>d.el (fun a=>some a) (fun o=>some o)
theorem MU (fu:Nat):MX (zS fu):=by
 intro w0 b0 S x1 b o r0 hP hM;unfold zS at hM;have c:=hP.bx;clear hP;generalize hG:mQ _=G at c ⊢;refine cf func19 r ?_;refine lH [(0,.agg #[Z b S.b o]),(1,V x1)] ⟨r,r,y⟩ fun b2=>?_;refine q (g (l5 (kD c (uM r)) ?_));rintro _ w1 ⟨b1,rfl,c⟩;refine s (xi r) (n (q (g (s (xi r) (n (q (q (g (s (Rz r) (s (l34 r (c.bk 0 r) r) (s (mV Ws r) (s (mi r) (n ?_)))))))))))));have aC:=(c.dl 0 r).bd;obtain ⟨Y2,U,hM⟩:=bs hM;refine oD (fun f w=>∃ (E:Int),Has f [(5,V E)]/\Bx w0 w b0 G [] [.l b o S.b]/\Ld.go E=Y2) (fun J2 an=>?_) ?_
 ·refine qb (kM (fun b3 f w=>∃ (X:Nat)(E:Int),b3=S.b.length - X/\X<=S.b.length/\Has f [(15,V (X:Int)),(1,V x1),(5,V E),(13,Z b S.b o),(14,V (S.b.length:Int))]/\Bx w0 w b0 G [] [.l b o S.b]/\qc fu x1 (S.b.drop X) X E=some Y2) S.b.length ⟨0,0,r,uS _,⟨r,r,r,r,r,y⟩,c.arr [] r,U⟩ ?_);clear c U;rintro b3 f w ⟨X,E,rfl,aD,hf,c,U⟩ K2 ao;obtain ⟨b2,rfl⟩:=ng hf;rcases wY X S.b.length with aa | aa
  ·obtain ⟨m,a4⟩:=mU (l:=S.b) aa;rw [mR a4,qc] at U;obtain ⟨aE,ap,c⟩:=c.nm 0 rfl a4;obtain ⟨j,t,v,x,z,C,rfl,ab,ac,ae⟩:=qE.out ap;replace c:=c.jZ (d:=.l j t m.b) ab;replace c:=c.jZ (d:=.l v x m.c) ac;replace c:=c.jZ (d:=.l z C m.d) ae;refine q (g (s (sO r r (by omega)) (n (q (jK r (wk (q (qb (q (g (s (lu Ws P5 r r r (c.dl 4 r) a4) (s (jQ [V m.a,Z j m.b t,Z v m.c x,Z z m.d C] adw r P5 r r (c.dc 3 r)) (l5 (kD c (jP P5)) ?_)))))))))))));rintro _ w4 ⟨b4,rfl,c⟩;refine lg (tb c 0 [V m.a,Z j m.b t,Z v m.c x,Z z m.d C] r P5 r r r r r (show _=#[V m.a,Z j m.b t,Z v m.c x,Z z m.d C] from r)) ?_;intro w5 c;try dsimp only [List.set] at c
   refine n (q (g (s (VB r) (s (l48 r (c.bk 0 r) r) (s (mV Tq r) (s (mi r) (n ?_)))))));have aF:=(c.dl 2 r).bd;obtain ⟨Y6,W,U⟩:=bs U;refine oD (fun f w=>∃ (D:Int),Has f [(1,V x1),(5,V D),(13,Z b S.b o),(14,V (S.b.length:Int)),(15,V (X:Int))]/\Bx w0 w b0 G [] [.l z C m.d,.l v x m.c,.l j t m.b,.at (nk b) (nX b+X * sz qE) [V m.a,Z j m.b t,Z v m.c x,Z z m.d C],.l b o S.b]/\Ld.go D=Y6) (fun J6 aq=>?_) ?_
   ·refine qb (kM (fun b3 f w=>∃ (Y:Nat)(D:Int),b3=m.b.length - Y/\Y<=m.b.length/\Has f [(22,V (Y:Int)),(1,V x1),(5,V D),(13,Z b S.b o),(14,V (S.b.length:Int)),(15,V (X:Int)),(20,Z j m.b t),(21,V (m.b.length:Int))]/\Bx w0 w b0 G [] [.l z C m.d,.l v x m.c,.l j t m.b,.at (nk b) (nX b+X * sz qE) [V m.a,Z j m.b t,Z v m.c x,Z z m.d C],.l b o S.b]/\p9 fu x1 (m.b.drop Y) Y D=some Y6) m.b.length ⟨0,E,r,uS _,⟨r,r,r,r,r,r,r,r,y⟩,c.arr [] r,W⟩ ?_);clear c W;rintro b3 f w ⟨Y,D,rfl,aG,hf,c,W⟩ K6 ar;obtain ⟨b2,rfl⟩:=ng hf;rcases wY Y m.b.length with af | af
    ·obtain ⟨e,a5⟩:=mU (l:=m.b) af;rw [mR a5,p9] at W;obtain ⟨aH,au,c⟩:=c.nm 2 rfl a5;obtain ⟨F,H,J,K,L,M,Q,R,rfl,ag,ah,ai,aj⟩:=nK.out au;replace c:=c.jZ (d:=.l F H e.c) ag;replace c:=c.jZ (d:=.l J K e.b.a) ah;replace c:=c.jZ (d:=.l L M e.b.e.a.a) ai;replace c:=c.jZ (d:=.l Q R e.b.e.b.a) aj;refine q (g (s (sO r r (by omega)) (n (q (jK r (wk (q (qb (q (g (s (lu Tq MW r r r (c.dl 7 r) a5) (s (jQ [V e.a,Z F e.c H,V e.b.c,V e.b.A,V e.b.N,Z J e.b.a K,V e.b.e.a.b,Z L e.b.e.a.a M,V e.b.e.b.b,Z Q e.b.e.b.a R] adR r MW r r (c.dc 4 r)) (l5 (kD c (jP MW)) ?_)))))))))))));rintro _ w8 ⟨b8,rfl,c⟩;refine lg (tb c 0 [V e.a,Z F e.c H,V e.b.c,V e.b.A,V e.b.N,Z J e.b.a K,V e.b.e.a.b,Z L e.b.e.a.a M,V e.b.e.b.b,Z Q e.b.e.b.a R] r MW r r r r r (show _=#[V e.a,Z F e.c H,V e.b.c,V e.b.A,V e.b.N,Z J e.b.a K,V e.b.e.a.b,Z L e.b.e.a.a M,V e.b.e.b.b,Z Q e.b.e.b.a R] from r)) ?_;intro w9 c;try dsimp only [List.set] at c
     refine n (q (g (s (Yh r) (s (l62 r (c.bk 0 r) r) (s (mV X3 r) (s (mi r) (n ?_)))))));have aA:=(c.dl 3 r).bd;obtain ⟨ak,u,W⟩:=bs W;refine oD (fun f w=>∃ (p:Int),Has f [(1,V x1),(5,V p),(13,Z b S.b o),(14,V (S.b.length:Int)),(15,V (X:Int)),(20,Z j m.b t),(21,V (m.b.length:Int)),(22,V (Y:Int))]/\Bx w0 w b0 G [] [.l Q R e.b.e.b.a,.l L M e.b.e.a.a,.l J K e.b.a,.l F H e.c,.at (nk j) (nX j+Y * sz nK) [V e.a,Z F e.c H,V e.b.c,V e.b.A,V e.b.N,Z J e.b.a K,V e.b.e.a.b,Z L e.b.e.a.a M,V e.b.e.b.b,Z Q e.b.e.b.a R],.l z C m.d,.l v x m.c,.l j t m.b,.at (nk b) (nX b+X * sz qE) [V m.a,Z j m.b t,Z v m.c x,Z z m.d C],.l b o S.b]/\Ld.go p=ak) (fun aI al=>?_) ?_
     ·refine qb (kM (fun b3 f w=>∃ (I:Nat)(p:Int),b3=e.c.length - I/\I<=e.c.length/\Has f [(29,V (I:Int)),(1,V x1),(5,V p),(13,Z b S.b o),(14,V (S.b.length:Int)),(15,V (X:Int)),(20,Z j m.b t),(21,V (m.b.length:Int)),(22,V (Y:Int)),(27,Z F e.c H),(28,V (e.c.length:Int))]/\Bx w0 w b0 G [] [.l Q R e.b.e.b.a,.l L M e.b.e.a.a,.l J K e.b.a,.l F H e.c,.at (nk j) (nX j+Y * sz nK) [V e.a,Z F e.c H,V e.b.c,V e.b.A,V e.b.N,Z J e.b.a K,V e.b.e.a.b,Z L e.b.e.a.a M,V e.b.e.b.b,Z Q e.b.e.b.a R],.l z C m.d,.l v x m.c,.l j t m.b,.at (nk b) (nX b+X * sz qE) [V m.a,Z j m.b t,Z v m.c x,Z z m.d C],.l b o S.b]/\oQ fu x1 (e.c.drop I) I p=some ak) e.c.length ⟨0,D,r,uS _,⟨r,r,r,r,r,r,r,r,r,r,r,y⟩,c.arr [] r,u⟩ ?_);clear c u;rintro b3 f w ⟨I,p,rfl,aB,hf,c,u⟩ aJ a0;obtain ⟨b2,rfl⟩:=ng hf;rcases wY I e.c.length with a3 | a3
      ·obtain ⟨a,a1⟩:=mU (l:=e.c) a3;rw [mR a1,oQ] at u;refine q (g (s (sO r r (by omega)) (n (q (jK r (wk (q (qb (q (g (s (lu X3 Tj r r r (c.dl 3 r) a1) (s (jQ [V a.c,V a.e,V a.A,V a.B,V a.N,V a.d,V a.g,V a.b,V a.a.c,V a.a.a,V a.a.b] aed r Tj r r (uE (ds:=[V a.c,V a.e,V a.A,V a.B,V a.N,V a.d,V a.g,V a.b,V a.a.c,V a.a.a,V a.a.b]) (c.dl 3 r) a1 (fun _ h=>h))) (l5 (kD c (jP Tj)) ?_)))))))))))));rintro _ aK ⟨aL,rfl,c⟩;refine lg (tb c 0 [V a.c,V a.e,V a.A,V a.B,V a.N,V a.d,V a.g,V a.b,V a.a.c,V a.a.a,V a.a.b] r Tj r r r r r (show _=#[V a.c,V a.e,V a.A,V a.B,V a.N,V a.d,V a.g,V a.b,V a.a.c,V a.a.a,V a.a.b] from r)) ?_;intro aM c;try dsimp only [List.set] at c
       refine n (q (g (s (ab3 r) (s (l3 r (c.bk 0 r) r) (s (kH r r) (s (lI r) ?_))))));rcases iv u with ⟨a6,u⟩|⟨a6,u⟩
       ·rw [uD a6];refine kL r (s (abq r) (kL r (s (l3 r (c.bk 0 r) r) (kL r (s (mi r) (kL r (s (kH r r) (s (kU r r) (n ?_)))))))));rcases iv u with ⟨a7,u⟩|⟨a7,u⟩
        ·refine jK (bt a7) (g (s (mi r) (s (kN r r) (s (xi r) (n (g (s (mE r r (by omega) (by omega)) (s (mi r) (n ?_)))))))));exact a0 (e.c.length - (I+1)) _ _ (by omega) ⟨I+1,wr (p+1),r,by omega,⟨r,r,r,r,r,r,r,r,r,r,r,y⟩,c.arr [] r,u⟩
        refine jD (bf a7) (wk (g (s (mE r r (by omega) (by omega)) (s (mi r) (n ?_)))));exact a0 (e.c.length - (I+1)) _ _ (by omega) ⟨I+1,p,r,by omega,⟨r,r,r,r,r,r,r,r,r,r,r,y⟩,c.arr [] r,u⟩
       rw [uL a6];refine ko r (ko r (ko r (ko r (s (kI r r) (n (jD r (wk (g (s (mE r r (by omega) (by omega)) (s (mi r) (n ?_)))))))))));exact a0 (e.c.length - (I+1)) _ _ (by omega) ⟨I+1,p,r,by omega,⟨r,r,r,r,r,r,r,r,r,r,r,y⟩,c.arr [] r,u⟩
      obtain rfl:I=e.c.length:=by omega
      rw [lU,oQ] at u;refine q (g (s (sM r r (by omega)) (n (q (jD r (vE ?_))))));exact al _ _ ⟨p,⟨r,r,r,r,r,r,r,r,y⟩,c,sm u⟩
     clear c;rintro f w ⟨p,hf,c,am⟩;obtain ⟨b2,rfl⟩:=ng hf;subst am;replace W:=gi W;refine g (s (mE r r (by omega) (by omega)) (s (mi r) (n ?_)));exact ar (m.b.length - (Y+1)) _ _ (by omega) ⟨Y+1,p,r,by omega,⟨r,r,r,r,r,r,r,r,y⟩,c.dp [5,6,7,8,9],W⟩
    obtain rfl:Y=m.b.length:=by omega
    rw [lU,p9] at W;refine q (g (s (sM r r (by omega)) (n (q (jD r (vE ?_))))));exact aq _ _ ⟨D,⟨r,r,r,r,r,y⟩,c,sm W⟩
   clear c;rintro f w ⟨D,hf,c,av⟩;obtain ⟨b2,rfl⟩:=ng hf;subst av;replace U:=gi U;refine g (s (mE r r (by omega) (by omega)) (s (mi r) (n ?_)));exact ao (S.b.length - (X+1)) _ _ (by omega) ⟨X+1,D,r,by omega,⟨r,r,r,r,r,y⟩,c.dp [4],U⟩
  obtain rfl:X=S.b.length:=by omega
  rw [lU,qc] at U;refine q (g (s (sM r r (by omega)) (n (q (jD r (vE ?_))))));exact an _ _ ⟨E,⟨r,y⟩,c,sm U⟩
 clear c;rintro f w ⟨E,hf,c,aw⟩;obtain ⟨b2,rfl⟩:=ng hf;subst aw;replace hM:=gi hM;refine q (g (s (mi r) (s (xi r) (n (lS ?_)))));obtain rfl:=sm hM;refine jI r (nu r) ?_;exact ⟨r,c.dp []⟩
def Na (m:Option Bool):Prop:=∀ {a c b},Pre a c [] []->m=some b-> Calls prog 10 #[] a (sW fun v w=>v=.bool b/\Bx a w c (mQ []) [] [])
def xD (fu:Nat):Option Bool:=(Df fu (⟨#[102,117,110,99,32,102,40,97,41,32,123,32,114,101,116,117,114,110,32,97,32,43,32,49,59,32,125]⟩:BA)).bind fun b=>(rV fu b).bind fun f=>jy f fun a c=>if c=0 then if (a.b.length:Int)=1 then (ix a.b 0).bind fun e=>if (e.b.length:Int)=1 then (ix e.b 0).bind fun d=>some (decide ((d.c.length:Int)=4)) else some false else some false else some false
theorem CY (fu:Nat):Na (xD fu):=by
 intro w0 au r0 hP b;unfold xD at b;have a:=hP.bx;clear hP;generalize hG:mQ _=G at a ⊢;refine cf func10 r ?_;refine lH [] y fun av=>?_;refine q (g (s (kG r) (n (q (g ?_)))));obtain ⟨ab,h1,b⟩:=bs b;have hc:=(KX fu) (a.pr [] [] [] r)  h1;refine sc (ec abB r) hc ?_;rintro _ w1 ⟨E,F,H,I,J,K,L,M,rfl,hK⟩;replace a:=a.cl [] [] r hK r;try dsimp only [pick,nth,ca,na] at a
 obtain ⟨⟨m,ac⟩,h2,b⟩:=bs b;replace b:=pi b;have hc:=(D9 fu) (a.pr [] [] [0,1,2,3] r)  h2;refine sc (ec Yg r) hc ?_;rintro _ w2 ⟨c,e,rfl,hK⟩;replace a:=a.cl [] [] r hK r;try dsimp only [pick,nth,ca,na] at a
 refine s vX (s (kF r r) (s (kF r r) (l5 (kD a (jP Ll)) ?_)));rintro _ w3 ⟨b3,rfl,a⟩;refine lg (tb a 0 [Z c m.b e] r Ll r r r r r (show _=#[Z c m.b e] from r)) ?_;intro w4 a;try dsimp only [List.set] at a
 refine s (xi r) (n (q (g (s (mi r) (s (kH r r) (s (lI r) ?_))))));rcases iv b with ⟨h5,b⟩|⟨h5,b⟩
 ·rw [uD h5];refine kL r (s (Rz r) (kL r (s (l34 r (a.bk 0 r) r) (kL r (s (mV Ws r) (kL r (s (kH r r) (s (kU r r) (s (lI r) ?_)))))))));rcases iv b with ⟨h6,b⟩|⟨h6,b⟩
  ·rw [uD h6];refine kL r (s (Rz r) (kL r (s (l34 r (a.bk 0 r) r) ?_)));obtain ⟨e7,h,b⟩:=bs b;obtain ⟨k7,N,h⟩:=lq h;obtain ⟨ah,a8,a⟩:=a.nm 0 rfl h;obtain ⟨Q,R,S,U,W,X,rfl,Y,a0,a1⟩:=qE.out a8;replace a:=a.jZ (d:=.l Q R e7.b) Y;replace a:=a.jZ (d:=.l S U e7.c) a0;replace a:=a.jZ (d:=.l W X e7.d) a1;refine kL r (s (lu Ws P5 r r N (a.dl 4 r) h) (kL r (s (VB r) (kL r (s (kC Tq r r ((a.dc 3 r) 1 _ r)) (kL r (s (mV Tq r) (kL r (s (kH r r) (s (kU r r) (s (lI r) ?_)))))))))));rcases iv b with ⟨h9,b⟩|⟨h9,b⟩
   ·rw [uD h9];refine kL r (s (Rz r) (kL r (s (l34 r (a.bk 0 r) r) (kL r (s (lu Ws P5 r r N (a.dl 4 r) h) (kL r (s (VB r) (kL r (s (kC Tq r r ((a.dc 3 r) 1 _ r)) ?_)))))))));obtain ⟨j,f,b⟩:=bs b;obtain ⟨ai,a2,f⟩:=lq f;obtain ⟨ae,a3,a⟩:=a.nm 2 rfl f;obtain ⟨o,p,t,u,v,w,x,z,rfl,A,B,C,D⟩:=nK.out a3;replace a:=a.jZ (d:=.l o p j.c) A;replace a:=a.jZ (d:=.l t u j.b.a) B;replace a:=a.jZ (d:=.l v w j.b.e.a.a) C;replace a:=a.jZ (d:=.l x z j.b.e.b.a) D;refine kL r (s (lu Tq MW r r a2 (a.dl 7 r) f) (kL r (s (Yh r) (kL r (s (kC X3 r r ((a.dc 4 r) 1 _ r)) (kL r (s (mV X3 r) (kL r (s (kH r r) (s (kU r r) (s (kG r) (n (lS ?_)))))))))))));obtain rfl:=sm b;refine jI r (nu r) ?_;exact ⟨r,a.ad [] []⟩
   rw [uL h9];refine ko r (ko r (ko r (ko r (ko r (ko r (ko r (ko r (ko r (ko r (s (kI r r) (s (kG r) (n (lS ?_)))))))))))));obtain rfl:=sm b;refine jI r (nu r) ?_;exact ⟨r,a.ad [] []⟩
  rw [uL h6];refine ko r (ko r (ko r (ko r (ko r (ko r (ko r (s (kI r r) (s (lI r) (ko r (ko r (ko r (ko r (ko r ?_)))))))))))));refine ko r (ko r (ko r (ko r (ko r (s (kI r r) (s (kG r) (n (lS ?_))))))));obtain rfl:=sm b;refine jI r (nu r) ?_;exact ⟨r,a.ad [] []⟩
 rw [uL h5];refine ko r (ko r (ko r (ko r (s (kI r r) (s (lI r) (ko r (ko r (ko r (ko r (ko r (ko r (ko r (s (kI r r) ?_)))))))))))));refine s (lI r) (ko r (ko r (ko r (ko r (ko r (ko r (ko r (ko r (ko r (ko r (s (kI r r) (s (kG r) (n ?_)))))))))))));refine lS ?_;obtain rfl:=sm b;refine jI r (nu r) ?_;exact ⟨r,a.ad [] []⟩
def GR (m:(List Int)->Option Bool):Prop:=∀ {c f d a b e},Pre c f [] [.l a b d]->m d=some e-> Calls prog 8 #[Z a d b] c (sW fun v w=>v=.bool e/\Bx c w f (mQ []) [] [])
def mH (fu:Nat)(a:jW)(b:uJ):List Gi→Nat→Option (Ld (Unit) (Bool))
 | [],_=>some (.go ())
 | f :: e,c=>
 (zS fu b (c:Int)).bind fun d=>
 if 1 < d then
  some (.out false)
 else
  if d=0 then
   if (c:Int)=0 then
    some (.out false)
   else
    (ix a.b (wr ((c:Int) - 1))).bind fun h=>
    if h.k≠f.k then
     some (.out false)
    else
     mH fu a b e (c+1)
  else
   mH fu a b e (c+1)
def vU (fu:Nat)(i:(List Int)):Option Bool:=(wD fu i).bind fun j=>jy j fun a d=>if (!d)=true then (xD fu).bind fun e=>some e else (rV fu a).bind fun j=>jy j fun f h=>if h≠0 then (xD fu).bind fun b=>some b else (mH fu a f a.b 0).bind fun j=>j.el (fun _=>(xD fu).bind fun c=>some c) (fun o=>some o)
theorem GK (fu:Nat):GR (vU fu):=by
 intro w0 aD x0 J K r0 hP A;unfold vU at A;have d:=hP.bx;clear hP;generalize hG:mQ _=G at d ⊢;refine cf func8 r ?_;refine lH [(0,Z J x0 K)] ⟨r,y⟩ fun aE=>?_;refine q (g (s (kG r) (n (q (g (s (qw r) ?_))))));obtain ⟨⟨a,ac⟩,h1,A⟩:=bs A;replace A:=pi A;have hc:=(JL fu) (d.pr [] [] [0] r)  h1;refine sc (ec ad5 r) hc ?_;rintro _ w1 ⟨e,j,m,o,p,t,u,v,rfl,E⟩;replace d:=d.cl [] [] r E r;try dsimp only [pick,nth,ca,na] at d
 refine s vX (s (kF r r) (s (kF r r) (l5 (kD d (jP zh)) ?_)));rintro _ w2 ⟨b2,rfl,d⟩;refine lg (tb d 0 [Z e a.a.a j,Z m a.a.b o,Z p a.c t,Z u a.b v] r zh r r r r r (show _=#[Z e a.a.a j,Z m a.a.b o,Z p a.c t,Z u a.b v] from r)) ?_;intro w3 d;try dsimp only [List.set] at d
 refine s (kG r) (n (q (q (g (s (lI r) (s (D5 r) (n ?_)))))));rcases iv A with ⟨U,A⟩|⟨U,A⟩
 ·refine jK (cb U) (q (g ?_));obtain ⟨ae,h5,A⟩:=bs A;have hc:=(CY fu) (d.pr [] [0] [] r)  h5;refine sc (ec TW r) hc ?_;rintro _ w5 ⟨rfl,E⟩;replace d:=d.cl [] [0] r E r;try dsimp only [pick,nth,ca,na] at d
  refine s (kG r) (n (lS ?_));obtain rfl:=sm A;refine jI r (nu r) ?_;exact ⟨r,d.ad [] []⟩
 refine jD (wV U) (wk (q (g (s (jQ [Z e a.a.a j,Z m a.a.b o,Z p a.c t,Z u a.b v] KD r zh r r (Cells.part (d.bk 0 r).cells (o2:=0) r)) ?_))));obtain ⟨⟨B,af⟩,h6,A⟩:=bs A;replace A:=pi A;have hc:=(D9 fu) (d.pr [] [0] [0,1,2,3] r)  h6;refine sc (ec Yg r) hc ?_;rintro _ w6 ⟨x,z,rfl,E⟩;replace d:=d.cl [] [0] r E r;try dsimp only [pick,nth,ca,na] at d
 refine s vX (s (kF r r) (s (kF r r) (l5 (kD d (jP Ll)) ?_)));rintro _ w7 ⟨b7,rfl,d⟩;refine lg (tb d 0 [Z x B.b z] r Ll r r r r r (show _=#[Z x B.b z] from r)) ?_;intro w8 d;try dsimp only [List.set] at d
 refine s (xi r) (n (q (q (g (s (mi r) (s (tF r r) (n ?_)))))));rcases iv A with ⟨h9,A⟩|⟨h9,A⟩
 ·refine jK (bt h9) (q (g ?_));obtain ⟨a4,a5,A⟩:=bs A;have hc:=(CY fu) (d.pr [] [0,1] [] r)  a5;refine sc (ec TW r) hc ?_;rintro _ an ⟨rfl,E⟩;replace d:=d.cl [] [0,1] r E r;try dsimp only [pick,nth,ca,na] at d
  refine s (kG r) (n (lS ?_));obtain rfl:=sm A;refine jI r (nu r) ?_;exact ⟨r,d.ad [] []⟩
 refine jD (bf h9) (wk (q (q (g (s (DN r) (s (Ww r (d.bk 1 r) r) (s (mV KI r) (s (mi r) (n ?_)))))))));have ag:=(d.dl 4 r).bd;obtain ⟨W,c,A⟩:=bs A;refine oD (fun f w=>Has f []/\Bx w0 w aD G [.box b7 36 #[Z x B.b z],.box b2 30 #[Z e a.a.a j,Z m a.a.b o,Z p a.c t,Z u a.b v]] [.l x z B.b,.l e j a.a.a,.l m o a.a.b,.l p t a.c,.l u v a.b]/\Ld.go ()=W) (fun ao X=>?_) ?_
 ·refine qb (kM (fun aF f w=>∃ (C:Nat),aF=a.b.length - C/\C<=a.b.length/\Has f [(28,V (C:Int)),(3,Pt b2),(5,Pt b7),(27,V (a.b.length:Int))]/\Bx w0 w aD G [.box b7 36 #[Z x B.b z],.box b2 30 #[Z e a.a.a j,Z m a.a.b o,Z p a.c t,Z u a.b v]] [.l x z B.b,.l e j a.a.a,.l m o a.a.b,.l p t a.c,.l u v a.b]/\mH fu a B (a.b.drop C) C=some W) a.b.length ⟨0,r,uS _,⟨r,r,r,r,y⟩,d.dp [0,1,2,3,4],c⟩ ?_);clear d c;rintro aF f w ⟨C,rfl,ah,hf,d,c⟩ ap H;obtain ⟨aE,rfl⟩:=ng hf;rcases wY C a.b.length with I | I
  ·obtain ⟨L,F⟩:=mU (l:=a.b) I;rw [mR F,mH] at c;refine q (g (s (sO r r (by omega)) (n (q (jK r (wk (q (qb (q (g (s (mi r) (s (xi r) (n ?_)))))))))))));refine q (g (s (jQ [Z x B.b z] ad6 r Ll r r (Cells.part (d.bk 0 r).cells (o2:=0) r)) (s (mi r) ?_)));obtain ⟨a6,a7,c⟩:=bs c;have hc:=(MU fu) (d.pr [] [0,1] [0] r)  a7;refine sc (ec abk r) hc ?_;rintro _ aq ⟨rfl,E⟩;replace d:=d.cl [] [0,1] r E r;try dsimp only [pick,nth,ca,na] at d
   refine s (xi r) (n (q (qG d [1] [4] [] (by kernel_rfl) ?_)));replace d:=d.drew;have b:=d.ad [1] [4];refine pF 0 r (mi r) b (pF 1 r (vJ r r) b (pF 2 r (lI r) b ?_));rcases iv c with ⟨M,c⟩|⟨M,c⟩
   ·rw [uD M];have b:=d.ad [1] [4];refine kQ 3 r (by kernel_rfl) r (sF b) (kQ 4 r (by kernel_rfl) r (sF b) (kQ 5 r (by kernel_rfl) r (sF b) (kQ 6 r (by kernel_rfl) r (sF b) (kQ 7 r (by kernel_rfl) r (sF b) (kQ 8 r (by kernel_rfl) r (sF b) (kQ 9 r (by kernel_rfl) r (sF b) (kQ 10 r (by kernel_rfl) r (sF b) (kQ 11 r (by kernel_rfl) r (sF b) (kQ 12 r (by kernel_rfl) r (sF b) (kQ 13 r (by kernel_rfl) r (sF b) (kQ 14 r (by kernel_rfl) r (sF b) (kQ 15 r (by kernel_rfl) r (sF b) (kQ 16 r (by kernel_rfl) r (sF b) ?_)))))))))))));refine kQ 17 r (by kernel_rfl) r (sF b) (kQ 18 r (by kernel_rfl) r (sF b) (kQ 19 r (by kernel_rfl) r (sF b) (kQ 20 r (by kernel_rfl) r (sF b) (kQ 21 r (by kernel_rfl) r (sF b) (kQ 22 r (by kernel_rfl) r (sF b) (kQ 23 r (by kernel_rfl) r (sF b) (kQ 24 r (by kernel_rfl) r (sF b) (pF 25 r (kU r r) b (hD (jK r (q (g (s (kG r) ?_)))))))))))));refine n (lS ?_);obtain rfl:=sm c;replace A:=oi A;obtain rfl:=sm A;refine jI r (nu r) ?_;exact ⟨r,d.ad [] []⟩
   rw [uL M];have b:=d.ad [1] [4];refine pF 3 r (mi r) b (pF 4 r (kH r r) b (pF 5 r (lI r) b ?_));rcases iv c with ⟨N,c⟩|⟨N,c⟩
   ·rw [uD N];have b:=d.ad [1] [4];refine pF 6 r (mi r) b (pF 7 r (kH r r) b (pF 8 r (lI r) b ?_));rcases iv c with ⟨Q,c⟩|⟨Q,c⟩
    ·rw [uD Q];have b:=d.ad [1] [4];refine kQ 9 r (by kernel_rfl) r (sF b) (kQ 10 r (by kernel_rfl) r (sF b) (kQ 11 r (by kernel_rfl) r (sF b) (kQ 12 r (by kernel_rfl) r (sF b) (kQ 13 r (by kernel_rfl) r (sF b) (kQ 14 r (by kernel_rfl) r (sF b) (kQ 15 r (by kernel_rfl) r (sF b) (kQ 16 r (by kernel_rfl) r (sF b) (kQ 17 r (by kernel_rfl) r (sF b) (kQ 18 r (by kernel_rfl) r (sF b) (kQ 19 r (by kernel_rfl) r (sF b) (kQ 20 r (by kernel_rfl) r (sF b) (kQ 21 r (by kernel_rfl) r (sF b) (kQ 22 r (by kernel_rfl) r (sF b) ?_)))))))))))));refine pF 23 r (kU r r) b (pF 24 r (kU r r) b (pF 25 r (kI r r) b (hD (jK r (q (g (s (kG r) (n (lS ?_)))))))));obtain rfl:=sm c;replace A:=oi A;obtain rfl:=sm A;refine jI r (nu r) ?_;exact ⟨r,d.ad [] []⟩
    rw [uL Q];have b:=d.ad [1] [4];refine pF 9 r (DN r) b (uF 10 r (fun hS=>Ww r (hS.bk 0 r) r) b (pF 11 r (mi r) b (pF 12 r (yh r r) b ?_)));obtain ⟨R,D,c⟩:=bs c;obtain ⟨ar,Y,D⟩:=lq D;refine pF 13 r (lu KI ZJ r r Y (d.dl 4 r) D) b (pF 14 r (Yt r) b (tU 15 r (fun _ hS=>kC NG r r ((uE (ds:=[V R.k,V R.c,V R.f]) (hS.dl 0 r) D (fun _ h=>h)) 0 _ r)) (sF b) (pF 16 r (DN r) b (uF 17 r (fun hS=>Ww r (hS.bk 0 r) r) b (pF 18 r (mi r) b (pF 19 r (lu KI ZJ r r r (d.dl 4 r) F) b (pF 20 r (Yt r) b (tU 21 r (fun _ hS=>kC NG r r ((uE (ds:=[V L.k,V L.c,V L.f]) (hS.dl 0 r) F (fun _ h=>h)) 0 _ r)) (sF b) (pF 22 r (tF r r) b (pF 23 r (kI r r) b (pF 24 r (kU r r) b (pF 25 r (kI r r) b (hD ?_)))))))))))));rcases iv c with ⟨S,c⟩|⟨S,c⟩
    ·refine jK (bt S) (q (g (s (kG r) (n (lS ?_)))));obtain rfl:=sm c;replace A:=oi A;obtain rfl:=sm A;refine jI r (nu r) ?_;exact ⟨r,d.ad [] []⟩
    refine jD (bf S) (wk (g (s (mE r r (by omega) (by omega)) (s (mi r) (n ?_)))));exact H (a.b.length - (C+1)) _ _ (by omega) ⟨C+1,r,by omega,⟨r,r,r,r,y⟩,d,c⟩
   rw [uL N];have b:=d.ad [1] [4];refine kQ 6 r (by kernel_rfl) r (sF b) (kQ 7 r (by kernel_rfl) r (sF b) (kQ 8 r (by kernel_rfl) r (sF b) (kQ 9 r (by kernel_rfl) r (sF b) (kQ 10 r (by kernel_rfl) r (sF b) (kQ 11 r (by kernel_rfl) r (sF b) (kQ 12 r (by kernel_rfl) r (sF b) (kQ 13 r (by kernel_rfl) r (sF b) (kQ 14 r (by kernel_rfl) r (sF b) (kQ 15 r (by kernel_rfl) r (sF b) (kQ 16 r (by kernel_rfl) r (sF b) (kQ 17 r (by kernel_rfl) r (sF b) (kQ 18 r (by kernel_rfl) r (sF b) (kQ 19 r (by kernel_rfl) r (sF b) ?_)))))))))))));refine kQ 20 r (by kernel_rfl) r (sF b) (kQ 21 r (by kernel_rfl) r (sF b) (kQ 22 r (by kernel_rfl) r (sF b) (kQ 23 r (by kernel_rfl) r (sF b) (pF 24 r (kI r r) b (pF 25 r (kI r r) b (hD (jD r (wk (g (s (mE r r (by omega) (by omega)) (s (mi r) (n ?_))))))))))));exact H (a.b.length - (C+1)) _ _ (by omega) ⟨C+1,r,by omega,⟨r,r,r,r,y⟩,d,c⟩
  obtain rfl:C=a.b.length:=by omega
  rw [lU,mH] at c;refine q (g (s (sM r r (by omega)) (n (q (jD r (vE ?_))))));exact X _ _ ⟨y,d,sm c⟩
 clear d;rintro f w ⟨hf,d,a0⟩;obtain ⟨aE,rfl⟩:=ng hf;subst a0;replace A:=gi A;refine q (g ?_);obtain ⟨a8,a9,A⟩:=bs A;have hc:=(CY fu) (d.pr [] [0,1] [] r)  a9;refine sc (ec TW r) hc ?_;rintro _ au ⟨rfl,E⟩;replace d:=d.cl [] [0,1] r E r;try dsimp only [pick,nth,ca,na] at d
 refine s (kG r) (n (lS ?_));obtain rfl:=sm A;refine jI r (nu r) ?_;exact ⟨r,d.ad [] []⟩
end
theorem Oa {n:Int}(h:0<=n)(h2:n<=1000000):wr n=n:=by unfold wr;rw [TH (by omega) (by omega)]
theorem Sd {fu:Nat}{e:Int}:∀ (l:List HY)(k a:Nat),a+Lj l e≤1→oQ fu e l k a=some (.go ((a+Lj l e:Nat):Int))
 | [],_,a,_=>rfl
 | d :: l,k,a,h=>by
  rw [oQ];by_cases h1:d.c=19
  · rw [mF h1];by_cases h2:d.N=e
    · have hc:Lj (d :: l) e=Lj l e+1:=by unfold Lj;rw [List.countP_cons];simp [h1,h2]
      rw [hc] at h ⊢;rw [mF h2,Oa (by omega) (by omega)];have:=Sd (fu:=fu) (e:=e) l (k+1) (a+1) (by omega);rw [show (((a+1:Nat)):Int)=(a:Int)+1 from rfl] at this;rw [this]
      congr 3
      omega
    · have hc:Lj (d :: l) e=Lj l e:=by unfold Lj;rw [List.countP_cons];simp [h2]
      rw [hc] at h ⊢;rw [mO h2];exact Sd l (k+1) a h
  · have hc:Lj (d :: l) e=Lj l e:=by unfold Lj;rw [List.countP_cons];simp [h1]
    rw [hc] at h ⊢;rw [mO h1];exact Sd l (k+1) a h
theorem Yd {fu:Nat}{e:Int}:∀ (l:List nK)(k a:Nat),a+Ay l e≤1→p9 fu e l k a=some (.go ((a+Ay l e:Nat):Int))
 | [],_,a,_=>rfl
 | d :: l,k,a,h=>by
  rw [Ay] at h ⊢;rw [p9,Sd d.c 0 a (by omega)];show p9 fu e l (k+1) _=_;rw [Yd l (k+1) _ (by omega)]
  congr 3
  omega
theorem Yz {fu:Nat}{e:Int}:∀ (l:List qE)(k a:Nat),a+I4 l e≤1→qc fu e l k a=some (.go ((a+I4 l e:Nat):Int))
 | [],_,a,_=>rfl
 | d :: l,k,a,h=>by
  rw [I4] at h ⊢;rw [qc,Yd d.b 0 a (by omega)];show qc fu e l (k+1) _=_;rw [Yz l (k+1) _ (by omega)]
  congr 3
  omega
theorem adK {fu:Nat}{m:uJ}{e:Int}(h:I4 m.b e<=1):zS fu m e=some ((I4 m.b e:Nat):Int):=by have:=Yz (fu:=fu) (e:=e) m.b 0 0 (by omega);unfold zS;rw [show (0:Int)=((0:Nat):Int) from rfl,this];show some _=_;rw [Dm]
structure V8 (src:jW)(B:Nat->Nat):Prop where
 b0:B 0=0
 be:B src.a.b.length=src.b.length
 sm:src.b.length<=1000
 ids:∀ (j:Nat)(fn:kV),src.a.b[j]?=some fn->Ids fn.e (B j) (B (j+1))
 fn:∀ (j i:Nat),j < src.a.b.length->B j<=i->i < B (j+1)->∃ x,src.b[i]?=some x/\x.k=(j:Int)
theorem V8.find {src:jW}{B:Nat→Nat}(h:V8 src B){i:Nat}:∀ n,n≤src.a.b.length→i < B n→∃ j,j < n∧B j≤i∧i < B (j+1)
 | 0,_,hi=>by rw [h.b0] at hi;omega
 | n+1,hn,hi=>by
  by_cases c:B n<=i
  · exact ⟨n,by omega,c,hi⟩
  · obtain ⟨j,h1,h2,h3⟩:=h.find (i:=i) n (by omega) (by omega);exact ⟨j,by omega,h2,h3⟩
theorem JV {fu:Nat}{src:jW}{B:Nat->Nat}(hN:V8 src B){m:uJ}(hi:∀ i:Int,I4 m.b i<=if (0:Int)<=i/\i < src.b.length then 1 else 0)(hf:∀ j,j < src.a.b.length->1<=I4 m.b (B j)) :
  ∀ (l:List jU)(k:Nat),l=src.b.drop k->mH fu src m l k=some (.go ())
 | [],_,_=>rfl
 | x :: l,k,hk=>by
  have hx:src.b[k]?=some x:=by
    have h:(src.b.drop k)[0]?=some x:=by rw [<-hk];rfl
    rw [List.getElem?_drop] at h;exact h
  have hl:l=src.b.drop (k+1):=by
    have h:(src.b.drop k).drop 1=l:=by rw [<-hk];rfl
    rw [List.drop_drop] at h;rw [<-h]
  have hlt:k < src.b.length:=(List.getElem?_eq_some_iff.1 hx).1;have hsm:=hN.sm;have h1:I4 m.b k<=1:=by have:=hi k;split at this <;> omega
  rw [mH,adK h1];show (if (1:Int) < _ then _ else _)=_;rw [mO (by omega)];by_cases h0:I4 m.b k=0
  · rw [mF (by omega)];obtain ⟨j,hj1,hj2,hj3⟩:=hN.find (i:=k) src.a.b.length (nJ _) (by rw [hN.be];exact hlt);have hne:k≠B j:=fun c=>by have:=hf j hj1;rw [c] at h0;omega
    rw [mO (by omega)];obtain ⟨y,hy,hyf⟩:=hN.fn j (k - 1) hj1 (by omega) (by omega);obtain ⟨y',hy',hyf'⟩:=hN.fn j k hj1 hj2 hj3;rw [hx] at hy';cases hy';have hix:ix src.b (wr ((k:Int) - 1))=some y:=by rw [Oa (by omega) (by omega),show ((k:Int) - 1)=((k - 1:Nat):Int) by omega];unfold ix;rw [mO (by omega),MV];exact hy
    rw [hix];show (if y.k≠x.k then _ else _)=_;rw [mO (by rw [hyf,hyf'];simp)];exact JV hN hi hf l (k+1) hl
  · rw [mO (by omega)];exact JV hN hi hf l (k+1) hl
theorem VZ {fu:Nat}{src:jW}{B:Nat->Nat}(hN:V8 src B){m:uJ}(h:rV fu src=some (m,0)):mH fu src m src.b 0=some (.go ()):=by obtain ⟨q,hq,he⟩:=Option.map_eq_some_iff.1 h;obtain ⟨res,e⟩:=q;cases he;obtain ⟨_,h2,_,h4⟩:=V9 hN.ids src.a.b.length 0 [] (Dm _) hq;rw [Dm,hN.b0,hN.be] at h2;refine JV hN (fun i=>?_) (fun j hj=>h4 j (uS _) (by omega)) src.b 0 rfl;have:=h2 i;simpa [I4] using this
structure Iv (vars:List (List iA))(v:Bool)(s:Lw):Prop where
 o0:0<=s.ops
 o1:s.ops<=6000
 bk:∀ b ∈ s.blocks,(b.c.length:Int)<=s.ops
 lb:∀ t ∈ s.labs,t.2.length<=200
 vl:v=true->s.vals.isSome=true
 hn:∀ h ∈ s.hnd,h < s.labs.length
 vw:∀ vs,ix? vars s.f=some vs->∀ x ∈ vs,x.a<=8
def Go' (vars:List (List iA))(v:Bool)(s s':Lw):Prop:=Iv vars v s'/\s.labs.length<=s'.labs.length/\s'.f=s.f/\s'.hnd=s.hnd
section
variable {vars:List (List iA)}{v v' v2:Bool}{α β:Type}{c:LM α}{f:α->LM β}{L H n m p:Nat}
def TT (vars:List (List iA))(v v':Bool)(c:LM α)(L H n m:Nat)(Q:α->Nat->Prop):Prop:=∀ s,Iv vars v s->L<=s.labs.length->s.hnd.length<=H->s.pend.length<=n->∃ q,c s=some q/\∀ a s',q=.ok a s'->Go' vars v' s s'/\s'.pend.length<=m/\Q a s'.labs.length
abbrev q0:α->Nat->Prop:=fun _ _=>True
theorem tB {Q:α->Nat->Prop}{Q':β->Nat->Prop}(h:TT vars v v' c L H n m Q)(k:∀ a K,L<=K->Q a K->TT vars v' v2 (f a) K H m p Q'):TT vars v v2 (c.bind f) L H n p Q':=by
 intro s hi hl hh hp;obtain ⟨q,hq,h2⟩:=h s hi hl hh hp;unfold LM.bind;rw [hq];cases q with
 | lim=>exact ⟨_,rfl,fun a s' e=>by cases e⟩
 | rt=>exact ⟨_,rfl,fun a s' e=>by cases e⟩
 | ok a s1=>
  obtain ⟨⟨g1,g2,g3,g4⟩,g5,g6⟩:=h2 a s1 rfl;obtain ⟨q2,hq2,h3⟩:=k a _ (by omega) g6 s1 g1 (nJ _) (by rw [g4];exact hh) g5;refine ⟨q2,hq2,fun b s2 e=>?_⟩;obtain ⟨⟨k1,k2,k3,k4⟩,k5,k6⟩:=h3 b s2 e;exact ⟨⟨k1,rA g2 k2,k3.trans g3,k4.trans g4⟩,k5,k6⟩
theorem wU {a:α}{Q:α->Nat->Prop}(h:∀ K,L<=K->Q a K)(hm:n<=m):TT vars v v (nT a) L H n m Q:=fun s hi hl hh hp=>⟨_,rfl,fun b s' e=>by
 cases e;exact ⟨⟨hi,nJ _,rfl,rfl⟩,by omega,h _ hl⟩⟩
theorem Wi {Q:α->Nat->Prop}:TT vars v v' (lrt (α:=α)) L H n m Q:=fun s _ _ _ _=>⟨_,rfl,fun b s' e=>by cases e⟩
theorem Ct {l:List β}{k:β->LM α}{Q:α->Nat->Prop}(h:∀ x ∈ l,TT vars v v' (k x) L H n m Q):TT vars v v' (xg l k) L H n m Q:=by
 cases l with
 | nil=>exact Wi
 | cons x l=>exact h x (Az ..)
theorem Zi {l:List β}{k:β->LM α}{Q:α->Nat->Prop}(h:∀ x ∈ l,TT vars v v' (k x) L H n m Q):TT vars v v' (Xv l k) L H n m Q:=by
 cases l with
 | nil=>exact Wi
 | cons x l=>
  cases l with
  | nil=>exact Wi
  | cons y l=>exact h y (yT _ (Az ..))
theorem qU {p:Prop}[Decidable p]{a b:LM α}{Q:α->Nat->Prop}(h:p->TT vars v v' a L H n m Q)(k:¬ p->TT vars v v' b L H n m Q):TT vars v v' (if p then a else b) L H n m Q:=by
 split
 · exact h ‹_›
 · exact k ‹_›
theorem Jc {s s':Lw}(hi:Iv vars v s)(h1:s'.ops=s.ops)(h2:s'.blocks=s.blocks)(h3:s'.labs=s.labs)(h4:s'.vals=s.vals)(h5:s'.hnd=s.hnd)(h6:s'.f=s.f):Go' vars v s s':=
 ⟨⟨by rw [h1];exact hi.o0,by rw [h1];exact hi.o1,by rw [h1,h2];exact hi.bk,by rw [h3];exact hi.lb,by rw [h4];exact hi.vl,by rw [h5,h3];exact hi.hn,by rw [h6];exact hi.vw⟩,by rw [h3];exact nJ _,h6,h5⟩
end
theorem DU {α:Type}{a b:List α}(h:a.length+b.length<=1000000000):app a b=some (a ++ b):=by unfold app;rw [mF h]
section
variable {vis:Int->Int->Option (List Int)}{vars:List (List iA)}{v:Bool}{L H n:Nat}
theorem Jm {l:List HY}(hl:l.length<=1000):TT vars v v (lop l) L H n n q0:=by
 intro s hi hL hh hp;unfold lop;have h0:=hi.o0;have h1:=hi.o1;have hw:wr (s.ops+l.length)=s.ops+l.length:=by unfold wr;rw [TH (by omega) (by omega)]
 rw [hw];by_cases c:6000 < s.ops+l.length
 · rw [mF c];exact ⟨_,rfl,fun a s' e=>by cases e⟩
 rw [mO c];cases hb:ix? s.blocks s.blk with
 | none=>exact ⟨_,rfl,fun a s' e=>by cases e⟩
 | some b=>
   have hm:b ∈ s.blocks:=zn (ix?_at hb);have hbl:=hi.bk b hm;dsimp only;rw [DU (by omega)];refine ⟨_,rfl,fun a s' e=>?_⟩;cases e;refine ⟨⟨⟨by show (0:Int)<=s.ops+l.length;omega,by show s.ops+l.length<=(6000:Int);omega,fun x hx=>?_,hi.lb,hi.vl,hi.hn,hi.vw⟩,nJ _,rfl,rfl⟩,hp,trivial⟩;show (x.c.length:Int)<=s.ops+l.length;rcases JO hx with hx | rfl
   · have:=hi.bk x hx;omega
   · simp only [Hf];omega
theorem FD {o:HY}:TT vars v v (JW o) L H n n q0:=fun s hi hL hh hp=>by have h:=tB (f:=fun (_:Unit)=>nT s.next) (Jm (v:=v) (vars:=vars) (L:=L) (H:=H) (n:=n) (l:=[{ o with e:=s.next }]) (by simp)) (fun a K _ _=>wU (Q:=q0) (fun _ _=>trivial) (nJ _));exact h { s with next:=wr (s.next+1) } ⟨hi.o0,hi.o1,hi.bk,hi.lb,hi.vl,hi.hn,hi.vw⟩ hL hh hp
theorem Aq {k:Int}:TT vars v v (wm k) L H n n q0:=FD
theorem Ey {k:Int}(hn:n<=1000000):TT vars v v (ET k) L H n (n+1) q0:=fun s hi hL hh hp=>by unfold ET;rw [DU (by simp;omega)];refine ⟨_,rfl,fun a s' e=>?_⟩;cases e;exact ⟨Jc hi rfl rfl rfl rfl rfl rfl,by simp;omega,trivial⟩
theorem Hz:TT vars v v Gg L H (n+1) n q0:=fun s hi hL hh hp=>by
 unfold Gg;split
 · exact ⟨_,rfl,fun a s' e=>by cases e⟩
 · refine ⟨_,rfl,fun a s' e=>?_⟩;cases e;exact ⟨Jc hi rfl rfl rfl rfl rfl rfl,by simp;omega,trivial⟩
theorem RJ:TT vars v v Iu L H n n q0:=fun s hi hL hh hp=>by
 unfold Iu;split
 · exact ⟨_,rfl,fun a s' e=>by cases e⟩
 · refine ⟨_,rfl,fun a s' e=>?_⟩;cases e;exact ⟨Jc hi rfl rfl rfl rfl rfl rfl,hp,trivial⟩
theorem Gc {p:Pc}{k:Int}:TT vars true true (Ar p k) L H n n q0:=fun s hi hL hh hp=>by unfold Ar;obtain ⟨l,hl⟩:=Option.isSome_iff_exists.1 (hi.vl rfl);rw [hl];obtain ⟨q,hq,h⟩:=Jm (vars:=vars) (v:=true) (L:=L) (H:=H) (n:=n) (l:=[⟨21,0,0,0,0,0,p.1,p.2,⟨2,k,0⟩⟩]) (by simp) { s with vals:=some (BN l p k) } ⟨hi.o0,hi.o1,hi.bk,hi.lb,fun _=>rfl,hi.hn,hi.vw⟩ hL hh hp;exact ⟨q,hq,h⟩
theorem Vl:TT vars v v TN L H n n q0:=fun s hi hL hh hp=>Jm (l:=[⟨20,0,0,0,s.stmt,0,0,0,wK⟩]) (by simp) s hi hL hh hp
theorem Si:TT vars v v Iq L H n n q0:=fun s hi hL hh hp=>Jm (l:=[⟨19,0,0,0,s.stmt,0,0,0,wK⟩]) (by simp) s hi hL hh hp
theorem Ra {vs:Option (List iA)}(h:∀ l,vs=some l→∀ x ∈ l,x.a≤8):∀ (l:List Int)(acc:List Pc),acc.length+8 * l.length≤200→∃ r,OC vs l acc=some r∧∀ ps,r=some ps→ps.length≤200
 | [],acc,ha=>⟨_,rfl,fun ps e=>by cases e;simp at ha;exact ha⟩
 | k :: l,acc,ha=>by
  rw [OC];cases hx:vs.bind fun vs=>ix? vs k with
  | none=>exact ⟨_,rfl,fun ps e=>by cases e⟩
  | some x=>
   obtain ⟨l2,hl2,hx⟩:=bs hx;have hw:=h l2 hl2 x (zn (ix?_at hx));simp only [uN] at ha;dsimp only;by_cases c:x.c=3
   · rw [mF c];exact Ra h l acc (by omega)
   · rw [mO c,DU (by simp;omega)];exact Ra h l _ (by simp;omega)
theorem uU (hV:∀ f st,∃ l,vis f st=some l/\l.length<=25){stm:Int}:TT vars v v (rC vis vars stm) L H n n fun a K=>a < K:=fun s hi hL hh hp=>by
 unfold rC;obtain ⟨l,hl,hlen⟩:=hV s.f stm;rw [hl];obtain ⟨r,hr,hps⟩:=Ra (vs:=ix? vars s.f) hi.vw l [] (by simp;omega);rw [Option.bind_some,hr];cases r with
 | none=>exact ⟨_,rfl,fun a s' e=>by cases e⟩
 | some ps=>
  refine ⟨_,rfl,fun a s' e=>?_⟩;cases e;refine ⟨⟨⟨hi.o0,hi.o1,hi.bk,fun t ht=>?_,hi.vl,fun h hh=>?_,hi.vw⟩,by simp,rfl,rfl⟩,hp,by simp⟩
  · rcases rX.1 ht with ht | ht
    · exact hi.lb t ht
    · rw [List.mem_singleton.1 ht];exact hps ps rfl
  · have:=hi.hn h hh;simp;omega
theorem Me {i:Nat}(hi0:i < L):TT vars v v (zL i) L H n n q0:=fun s hi hL hh hp=>by
 unfold zL;obtain ⟨t,ht⟩:∃ t,s.labs[i]?=some t:=⟨_,List.getElem?_eq_getElem (by omega)⟩;rw [ht];dsimp only [Option.bind_some];split
 · refine ⟨_,rfl,fun a s' e=>?_⟩;cases e;exact ⟨Jc hi rfl rfl rfl rfl rfl rfl,hp,trivial⟩
 split
 · exact ⟨_,rfl,fun a s' e=>by cases e⟩
 refine ⟨_,rfl,fun a s' e=>?_⟩;cases e;refine ⟨⟨⟨hi.o0,hi.o1,fun b hb=>?_,fun x hx=>?_,hi.vl,fun h hh=>?_,hi.vw⟩,by simp,rfl,rfl⟩,hp,trivial⟩
 · rcases rX.1 hb with hb | hb
   · exact hi.bk b hb
   · rw [List.mem_singleton.1 hb];exact hi.o0
 · rcases JO hx with hx | rfl
   · exact hi.lb x hx
   · exact hi.lb t (zn ht)
 · have:=hi.hn h hh;simpa using this
end
section
variable {vis:Int->Int->Option (List Int)}{vars:List (List iA)}{v:Bool}{L H n m:Nat}
theorem yD {i:Nat}{l:List Int}(hi:i < L)(hl:l.length<=10):TT vars true true (xu i l) L H n n fun e _=>e.a.length<=300:=
 tB (Me hi) fun _ K hK _ s hv hL hh hp=>by obtain ⟨t,ht⟩:∃ t,s.labs[i]?=some t:=⟨_,List.getElem?_eq_getElem (by omega)⟩;obtain ⟨vs,hvs⟩:=Option.isSome_iff_exists.1 (hv.vl rfl);have:=hv.lb t (zn ht);rw [ht,Option.bind_some,hvs,Option.bind_some,DU (by simp;omega)];refine ⟨_,rfl,fun a s' e=>?_⟩;cases e;exact ⟨Jc hv rfl rfl rfl rfl rfl rfl,hp,by simp;omega⟩
theorem P8:∀ {L:Nat}{l:List Pc}{k:Int}{i:Nat},TT vars true true (D6 l k i) L H n n q0
 | _,[],_,_=>wU (fun _ _=>trivial) (nJ _)
 | _,p :: l,k,i=>tB Gc fun _ K hK _=>P8
theorem UE {s:Lw}{b b':nK}{k:Int}(h:∀ b ∈ s.blocks,(b.c.length:Int)<=s.ops)(hb:ix? s.blocks k=some b)(hE:b'.c=b.c):∀ x ∈ s.blocks.set k.toNat b',(x.c.length:Int)<=s.ops:=fun x hx=>by
 rcases JO hx with hx | rfl
 · exact h x hx
 · rw [hE];exact h b (zn (ix?_at hb))
theorem uR {i:Nat}{k:Int}(hi:i < L):TT vars v true (oz i k) L H n n q0:=fun s hv hL hh hp=>by
 obtain ⟨t,ht⟩:∃ t,s.labs[i]?=some t:=⟨_,List.getElem?_eq_getElem (by omega)⟩;unfold oz;rw [ht,Option.bind_some];dsimp only;split
 · exact ⟨_,rfl,fun a s' e=>by cases e⟩
 split
 · exact ⟨_,rfl,fun a s' e=>by cases e⟩
 rename_i b hb;exact (tB (P8 (L:=L) (H:=H) (n:=n)) fun _ K hK _ s hv hL hh hp=>⟨_,rfl,fun a s' e=>by
   cases e;exact ⟨Jc hv rfl rfl rfl rfl rfl rfl,by simp;omega,trivial⟩⟩) { s with blk:=t.1,opn:=true,next:=_,blocks:=s.blocks.set t.1.toNat { b with a:=_ },vals:=some [] } ⟨hv.o0,hv.o1,UE hv.bk hb rfl,hv.lb,fun _=>rfl,hv.hn,hv.vw⟩ hL hh hp
theorem G8 {t:yU}:TT vars v v (lend t) L H n n q0:=fun s hv hL hh hp=>by
 unfold lend;split
 · exact ⟨_,rfl,fun a s' e=>by cases e⟩
 rename_i b hb;refine ⟨_,rfl,fun a s' e=>?_⟩;cases e;exact ⟨⟨⟨hv.o0,hv.o1,UE hv.bk hb rfl,hv.lb,hv.vl,hv.hn,hv.vw⟩,nJ _,rfl,rfl⟩,hp,trivial⟩
theorem Ez {i:Nat}(hi:i < L):TT vars true true (xE i) L H n n q0:=fun s hv hL hh hp=>by
 unfold xE;split
 · exact (tB (yD hi (by simp)) fun _ K hK _=>G8) s hv hL hh hp
 · exact wU (Q:=q0) (fun _ _=>trivial) (nJ _) s hv hL hh hp
theorem Nl {k:Int}:TT vars v v (Du k) L H n n q0:=G8
theorem Et {k:Int}{a b:ug}:TT vars v v (Cg k a b) L H n n q0:=G8
theorem Pf {k:Int}:TT vars true true (zf k) L H n n q0:=fun s hv hL hh hp=>by
 unfold zf;split
 · rename_i h hh2;exact (tB (yD (L:=s.labs.length) (hv.hn h (List.mem_of_getLast? hh2)) (by simp)) fun _ K hK _=>G8) s hv (nJ _) hh hp
 · exact G8 s hv hL hh hp
theorem Wo {k:ug->LM Unit}(h:∀ e K,L<=K->TT vars true true (k e) K H n m q0):TT vars true true (Ee k) L H n m q0:=fun s hv hL hh hp=>by
 unfold Ee;split
 · rename_i h' hh2;exact (tB (yD (L:=s.labs.length) (hv.hn h' (List.mem_of_getLast? hh2)) (by simp)) fun e K hK _=>h e K (by omega)) s hv (nJ _) hh hp
 · exact h _ L (nJ _) s hv hL hh hp
theorem FJ {k:Int}(hn:n<=1000000):TT vars v v (Bg k) L H (n+2) (n+1) q0:=tB Hz fun _ _ _ _=>tB Hz fun _ _ _ _=>tB FD fun _ _ _ _=>Ey hn
theorem PU {i:Nat}(hi:i < L)(hn:n<=1000000):TT vars true true (JX i) L H n n q0:=tB (yD hi (by simp)) fun e K hK he s hv hL hh hp=>by rw [DU (by omega)];refine ⟨_,rfl,fun a s' e=>?_⟩;cases e;exact ⟨Jc hv rfl rfl rfl rfl rfl rfl,hp,trivial⟩
theorem L6 {i:Nat}(hi:i < L):TT vars v true (F6 i) L H n n q0:=tB (uR hi) fun _ _ _ _=>Vl
theorem PK {i:Nat}{k:Int}(hi:i < L):TT vars v true (EY i k) L H n n q0:=fun s hv hL hh hp=>by
 have h:=tB (uR (vars:=vars) (v:=v) (L:=L) (H:=H) (n:=0) (k:=0) hi) fun _ _ _ _=>tB Vl fun _ _ _ _=>tB (Aq (k:=k)) fun c _ _ _=>Pf (k:=c);obtain ⟨q,hq,h2⟩:=h { s with pend:=[] } ⟨hv.o0,hv.o1,hv.bk,hv.lb,hv.vl,hv.hn,hv.vw⟩ hL hh (nJ _);have hb:EY i k s=q.then fun _ s'=>some (.ok () { s' with pend:=s.pend }):=by
  have e:((oz i 0 |>.bind fun _=>TN |>.bind fun _=>wm k |>.bind fun c=>zf c).bind fun _ s'=>some (.ok () { s' with pend:=s.pend })) { s with pend:=[] }=q.then fun _ s'=>some (.ok () { s' with pend:=s.pend }):=by show Option.bind _ _=_;rw [hq];rfl
  rw [<-e];have hba:∀ {α β γ:Type}{mm:LM α}{k:α->LM β}{j:β->LM γ},(mm.bind k).bind j=mm.bind fun a=>(k a).bind j:=fun {α β γ mm k j}=>funext fun s=>by
   unfold LM.bind;cases mm s with
   | none=>rfl
   | some q=>cases q <;> rfl
  rw [hba,show (fun a=>LM.bind (TN.bind fun _=>(wm k).bind fun c=>zf c) fun _ s'=>some (Lo.ok () { s' with pend:=s.pend }))=fun (_:Unit)=>TN.bind fun _=>(wm k).bind fun c=>(zf c).bind fun _ s'=>some (.ok () { s' with pend:=s.pend }) from funext fun _=>by rw [hba];congr 1;exact funext fun _=>hba];rfl
 rw [hb];cases q with
 | lim=>exact ⟨_,rfl,fun a s' e=>by cases e⟩
 | rt=>exact ⟨_,rfl,fun a s' e=>by cases e⟩
 | ok a s1=>
  obtain ⟨⟨g1,g2,g3,g4⟩,_⟩:=h2 a s1 rfl;refine ⟨_,rfl,fun a s' e=>?_⟩;cases e;exact ⟨⟨⟨g1.o0,g1.o1,g1.bk,g1.lb,g1.vl,g1.hn,g1.vw⟩,g2,g3,g4⟩,hp,trivial⟩
theorem Nq {β:Type}{k:Nat->LM β}{Q:β->Nat->Prop}{v':Bool}(hV:∀ f st,∃ l,vis f st=some l/\l.length<=25)(h:∀ a K,L<=K->a < K->TT vars v v' (k a) K H n m Q):TT vars v v' (PD vis vars k) L H n m Q:=fun s hv hL hh hp=>(tB (uU hV) h) s hv hL hh hp
theorem Vq (hV:∀ f st,∃ l,vis f st=some l/\l.length<=25)(hn:n<=1000000):TT vars true true (Nj vis vars) L H n n q0:=tB RJ fun d _ _ _=>Nq hV fun next K1 h1 hN=>Nq hV fun fault K2 h2 hF=>tB (PU (by omega) hn) fun _ K3 h3 _=>
 tB (yD (by omega) (by simp)) fun _ K4 h4 _=>tB Et fun _ K5 h5 _=>tB (PK (by omega)) fun _ K6 h6 _=>L6 (by omega)
theorem VT {β:Type}{i:Int}{k:iA->LM β}{Q:β->Nat->Prop}{v':Bool}(h:∀ x,x.a<=8->TT vars v v' (k x) L H n m Q):TT vars v v' (Ou vars i k) L H n m Q:=fun s hv hL hh hp=>by
 unfold Ou;split
 · exact ⟨_,rfl,fun a s' e=>by cases e⟩
 · rename_i x hx;obtain ⟨l,hl,hx⟩:=bs hx;exact h x (hv.vw l hl x (zn (ix?_at hx))) s hv hL hh hp
theorem Qy {β:Type}{i:Int}{k:Int->LM β}{Q:β->Nat->Prop}{v':Bool}(h:∀ n',TT vars v v' (k n') L H n m Q):TT vars v v' (Po i k) L H n m Q:=fun s hv hL hh hp=>h _ s hv hL hh hp
theorem Oh (hV:∀ f st,∃ l,vis f st=some l/\l.length<=25){ex:jA->LM Unit}{x:jA}(hn:n<=100000)(h:∀ y ∈ x.a,TT vars true true (ex y) L H n (n+1) q0):TT vars true true (Ho vis vars ex x) L H n (n+1) q0:=
 tB (Ct h) fun _ K0 h0 _=>tB RJ fun _ _ _ _=>tB Aq fun _ _ _ _=>tB FD fun _ K1 h1 _=>VT fun _ _=>tB Aq fun _ _ _ _=>tB FD fun _ _ _ _=>tB FD fun _ K2 h2 _=>
 Nq hV fun next K3 h3 hN=>Nq hV fun fault K4 h4 hF=>tB (yD (by omega) (by simp)) fun _ K5 h5 _=>tB (PU (by omega) (by omega)) fun _ K6 h6 _=>tB Et fun _ K7 h7 _=>tB (PK (by omega)) fun _ K8 h8 _=>L6 (by omega)
def XD:Nat→jA→Prop
 | 0,_=>False
 | d+1,e=>∀ y ∈ e.a,XD d y
theorem Gh (hV:∀ f st,∃ l,vis f st=some l∧l.length≤25):∀ (fu d:Nat)(e:jA)(L H n:Nat),XD d e→d≤fu→n+d≤100000→TT vars true true (lexpr vis vars fu e) L H n (n+1) q0
 | 0,0,_,_,_,_,h,_,_=>h.elim
 | 0,d+1,_,_,_,_,_,h,_=>by omega
 | fu+1,0,_,_,_,_,h,_,_=>h.elim
 | fu+1,d+1,e,L,H,n,h,hd,hn=>by
  have ih:∀ (L n:Nat),n+d<=100000->∀ y ∈ e.a,TT vars true true (lexpr vis vars fu y) L H n (n+1) q0:=fun L n hn y hy=>Gh hV fu d y L H n (h y hy) (by omega) hn;unfold lexpr;refine qU (fun _=>tB Aq fun _ _ _ _=>Ey (by omega)) fun _=>qU (fun _ s hv hL hh hp=>?_) fun _=>qU (fun _=>tB (Oh hV (by omega) (ih _ n (by omega))) fun _ _ _ _=>tB Hz fun _ _ _ _=>Qy fun _=>tB FD fun _ _ _ _=>Ey (by omega)) fun _=>
   qU (fun _=>tB (tB Aq fun _ _ _ _=>Ey (by omega)) fun _ _ _ _=>tB (Ct (ih _ (n+1) (by omega))) fun _ _ _ _=>FJ (by omega)) fun _=>qU (fun _=>tB (Ct (ih _ n (by omega))) fun _ _ _ _=>tB (tB Aq fun _ _ _ _=>Ey (by omega)) fun _ _ _ _=>FJ (by omega)) fun _=>
   tB (Ct (ih _ n (by omega))) fun _ _ _ _=>tB (Zi (ih _ (n+1) (by omega))) fun _ _ _ _=>tB (qU (fun _=>Vq hV (by omega)) fun _=>wU (Q:=q0) (fun _ _=>trivial) (nJ _)) fun _ _ _ _=>FJ (by omega)
  obtain ⟨vs,hvs⟩:=Option.isSome_iff_exists.1 (hv.vl rfl);rw [hvs];exact Ey (by omega) s hv hL hh hp
end
end Go.Proofs.YtdkneekpdecjbaaGreat
