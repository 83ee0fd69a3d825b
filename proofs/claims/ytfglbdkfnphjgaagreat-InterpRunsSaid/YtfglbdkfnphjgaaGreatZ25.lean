/- Parts of a statement, in the interpreter of the specification: a row made anew, a word set, an assignment. -/
import Derived.Test.YtfglbdkfnphjgaaGreatZ24
set_option linter.unusedVariables false
set_option maxRecDepth 4000
set_option maxHeartbeats 12800000
set_option linter.unusedSimpArgs false
namespace Go.Proofs.YtfglbdkfnphjgaaGreat
open Go.RowKit Go.Fw Go.Proofs.Tryz
theorem Bu {α β:Type}{q:Pn α}{f:α->Option (Pn β)}{k:Int}(h:q.then f=some (.err k)):q=.err k\/∃ a,q=.ok a/\f a=some (.err k):=by
 cases q with
 | ok a=>exact .inr ⟨a,rfl,h⟩
 | uP t=>cases h
 | err t=>cases h;exact .inl rfl
 | rt=>cases h
theorem Ud {op x y k:Int}(h:CR op x y=.err k):k=4:=by
 unfold CR at h;rcases jB h with ⟨_,h⟩|⟨_,h⟩
 · cases h
 rcases jB h with ⟨_,h⟩|⟨_,h⟩
 · cases h
 rcases jB h with ⟨_,h⟩|⟨_,h⟩
 · cases h
 rcases jB h with ⟨_,h⟩|⟨_,h⟩
 · rcases jB h with ⟨_,h⟩|⟨_,h⟩ <;> cases h
 rcases jB h with ⟨_,h⟩|⟨_,h⟩
 · rcases jB h with ⟨_,h⟩|⟨_,h⟩ <;> cases h
 rcases jB h with ⟨_,h⟩|⟨_,h⟩
 · cases h
 rcases jB h with ⟨_,h⟩|⟨_,h⟩
 · cases h
 rcases jB h with ⟨_,h⟩|⟨_,h⟩
 · cases h
 rcases jB h with ⟨_,h⟩|⟨_,h⟩
 · cases h
 rcases jB h with ⟨_,h⟩|⟨_,h⟩
 · cases h
 rcases jB h with ⟨_,h⟩|⟨_,h⟩
 · cases h
 rcases jB h with ⟨_,h⟩|⟨_,h⟩
 · cases h
 cases h;rfl
theorem LV {ev:jA->Option (Pn Int)}(he:∀ e k,ev e=some (.err k)->k=4){ws:List (List Int)}{e:jA}{k:Int}(h:O4 ev ws e=some (.err k)):k=4:=by
 unfold O4 at h;cases hl:ix? ws e.g with
 | none=>rw [hl] at h;cases h
 | some l=>
  rw [hl] at h;dsimp only at h;rcases jB h with ⟨_,h⟩|⟨_,h⟩
  · have h:=vK h;split at h <;> cases h
  rcases jB h with ⟨_,h⟩|⟨_,h⟩
  · cases hA:e.a with
    | nil=>rw [hA] at h;cases h
    | cons y r=>
     rw [hA] at h;obtain ⟨p,hp,h⟩:=bs h;rcases Bu h with rfl | ⟨n,rfl,h⟩
     · exact he _ _ hp
     · have h:=vK h;split at h <;> cases h
  · have h:=vK h;split at h <;> cases h
theorem Bg:∀ (fu:Nat){ws:List (List Int)}{e:jA}{k:Int},xD fu ws e=some (.err k)→k=4
 | 0,ws,e,k,h=>by cases h
 | fu+1,ws,e,k,h=>by
  rw [xD] at h;rcases jB h with ⟨_,h⟩|⟨_,h⟩
  · cases h
  rcases jB h with ⟨_,h⟩|⟨_,h⟩
  · obtain ⟨p,hp,h⟩:=bs h;rcases Bu h with rfl | ⟨n,rfl,h⟩
    · exact LV (fun _ _=>Bg fu) hp
    · cases h
  rcases jB h with ⟨_,h⟩|⟨_,h⟩
  · cases hA:e.a with
    | nil=>rw [hA] at h;cases h
    | cons y r=>
      rw [hA] at h;obtain ⟨p,hp,h⟩:=bs h;rcases Bu h with rfl | ⟨n,rfl,h⟩
      · exact Bg fu hp
      · cases h
  rcases jB h with ⟨_,h⟩|⟨_,h⟩
  · cases hA:e.a with
    | nil=>rw [hA] at h;cases h
    | cons y r=>
      rw [hA] at h;obtain ⟨p,hp,h⟩:=bs h;rcases Bu h with rfl | ⟨n,rfl,h⟩
      · exact Bg fu hp
      · cases h
  cases hA:e.a with
  | nil=>rw [hA] at h;cases h
  | cons y r=>
    rw [hA] at h;obtain ⟨p,hp,h⟩:=bs h;rcases Bu h with rfl | ⟨n,rfl,h⟩
    · exact Bg fu hp
    · cases r with
      | nil=>cases h
      | cons z r=>
        obtain ⟨p,hp,h⟩:=bs h;rcases Bu h with rfl | ⟨m,rfl,h⟩
        · exact Bg fu hp
        · exact Ud (vK h)
def JU {α:Type}:Pn α→Prop
 | .rt=>False
 | .err e=>e≠4
 | _=>True
theorem E9 {α β:Type}{q:Pn α}(h:JU (q.up:Pn β))(hn:∀ a,q≠.ok a)(he:∀ k,q=.err k->k=4):∃ t,q=.uP t:=by
 cases q with
 | ok a=>exact absurd rfl (hn a)
 | uP t=>exact ⟨t,rfl⟩
 | err k=>exact absurd (he k rfl) h
 | rt=>exact h.elim
def Hw:Pn (Option Int)→Int→Int→Int→Prop
 | .ok none,h,e,_=>h=0/\e=0
 | .ok (some n),h,e,v=>h=1/\e=0/\v=n
 | .uP t,h,e,v=>h=2/\e=0/\v=t
 | .err k,h,e,_=>h=3/\e=k
 | .rt,_,_,_=>False
theorem Ll:∀ {l:List Nat}{k q:Nat},l.Nodup→q ∉ l→(l.set k q).Nodup
 | [],_,_,h,_=>by simp
 | a :: l,0,q,h,hq=>by rw [List.set_cons_zero];exact List.nodup_cons.2 ⟨fun hb=>hq (wI _ hb),(List.nodup_cons.1 h).2⟩
 | a :: l,k+1,q,h,hq=>by
  rw [List.set_cons_succ];refine List.nodup_cons.2 ⟨fun hb=>?_,Ll (List.nodup_cons.1 h).2 fun hb=>hq (wI _ hb)⟩;rcases EO hb with hb | rfl
  · exact (List.nodup_cons.1 h).1 hb
  · exact hq (Bn ..)
theorem Gw.put {w:World}:∀ {R:List Nat}{m:List (List Int)}{k q:Nat}{l:List Int},Gw w R m→k < m.length→nS w q 3 (l.map V).toArray→Gw w (R.set k q) (m.set k l)
 | _ :: _,_ :: _,0,_,_,h,_,hb=>⟨hb,h.2⟩
 | _ :: _,_ :: _,k+1,_,_,h,hk,hb=>⟨h.1,Gw.put (k:=k) h.2 (by simpa using hk) hb⟩
 | [],[],_,_,_,_,hk,_=>by simp at hk
 | [],_ :: _,_,_,_,h,_,_=>h.elim
 | _ :: _,[],_,_,_,h,_,_=>h.elim
theorem O9:∀ {R:List Nat}{m:List (List Int)}{k q:Nat}{l:List Int},R.length=m.length→k < m.length→F8 (R.set k q) (m.set k l)=(F8 R m).set k (.slice (some ⟨q,0,none⟩) l.length l.length)
 | _ :: _,_ :: _,0,_,_,_,_=>rfl
 | r :: R,a :: m,k+1,q,l,h,hk=>by simp only [List.set_cons_succ,F8];rw [O9 (R:=R) (m:=m) (k:=k) (by simpa using h) (by simpa using hk)]
 | [],[],_,_,_,_,hk=>by simp at hk
 | [],_ :: _,_,_,_,h,_=>by simp at h
 | _ :: _,[],_,_,_,h,_=>by simp at h
section
variable {w w0:World}{Z G:Nat->Prop}{L:List It}{D:List Da}{T:TypeId}{x:vV}{g:qx}{ρ:Operand->Value}{d:Option Nat}{ty:TypeId}{pos:String}{af:Array Edge}{gd:Option (Nat × Bool)}{p y:Operand}
theorem ZO {q n:Nat}(hL:Bx w0 w Z G (.box q 3 (Array.replicate n (V 0)) :: L) D)(i:Nat)(hi:L[i]?=some (It.vY T x g)){k:Nat}{l:List Int}(hk:g.ws[k]?=some l)(hn:l.length=n)(hx:ρ p=.pointer (some ⟨nE x.A,ow x.A+k * 1,none⟩))(hy:ρ y=.slice (some ⟨q,0,none⟩) n n) :TV prog ρ ⟨d,.store 22 p y,ty,pos,af,gd⟩ w fun w'=>Bx w0 w' Z G (L.set i (It.vY T ⟨x.b,x.A,x.c,x.R.set k q⟩ { g with ws:=g.ws.set k (List.replicate n 0) })) D:=by
 have hB:nS w q 3 (Array.replicate n (V 0)):=hL.bk 0 rfl;have hp:=Aq.1 hL.pw;have h:=hL.at (i+1) (by simpa using hi);obtain ⟨r1,hr1,_,h5,h6⟩:=It.tO h hk;obtain ⟨h1,h2,h3,h4,h7,h8,h9,h10⟩:=h;have hkl:=jU hk;have hm:=wC hi;have hq:∀ b,(It.vY T x g).F b->b≠q:=fun b hb e=>hp.1 _ hm q rfl (e ▸ hb);obtain ⟨g0,hA⟩:=Go.Fw.Own.VL h3 (by omega);have h3':=h3;rw [hA] at h3' hx h6;have hx:ρ p=.pointer (some ⟨g0,k,none⟩):=by rw [hx];show Value.pointer (some ⟨g0,0+k * 1,none⟩)=_;rw [Bh,Nat.mul_one]
 have hF0:rowOf x.A=some g0:=by rw [hA];rfl
 have hcell:w.cell? ⟨g0,k,none⟩=some (.slice (some ⟨r1,0,none⟩) l.length l.length):=by
   have:w.cell? ⟨g0,0+k,none⟩=_:=h6
   rwa [Bh] at this
 have hst:=VB (P:=prog) (d:=d) (ty:=ty) (pos:=pos) (af:=af) (g:=gd) xg hx hy rfl hcell (Go.Fw.Own.frozen h3' k);have hc:=Gu.setCell w g0 k (.slice (some ⟨q,0,none⟩) n n);have hne:∀ b,b≠g0->(w.setCell ⟨g0,k,none⟩ (.slice (some ⟨q,0,none⟩) n n)).heap[b]?=w.heap[b]?:=fun b hb=>Below.heap_setCell w _ _ b (by simpa using hb);have hc':IG (fun b=>b=g0) w (w.setCell ⟨g0,k,none⟩ (.slice (some ⟨q,0,none⟩) n n)):=⟨hc.os,hc.tape,hc.output,hc.size,fun b hb hn=>hne b hn⟩;have hmap:(List.replicate n (0:Int)).map V=List.replicate n (V 0):=by simp
 have hFn:∀ b,(It.vY T ⟨x.b,x.A,x.c,x.R.set k q⟩ { g with ws:=g.ws.set k (List.replicate n 0) }).F b->(It.vY T x g).F b\/b=q:=fun b hb=>by
   rcases hb with hb | hb | hb
   · exact .inl (.inl hb)
   · exact .inl (.inr (.inl hb))
   · rcases EO hb with hb | hb
     · exact .inl (.inr (.inr hb))
     · exact .inr hb
 have hqg:q≠g0:=fun e=>hq g0 (.inr (.inl hF0)) e.symm;have hap:∀ j it,j≠i->L[j]?=some it->∀ b,it.F b->¬ ((It.vY T x g).F b\/b=q):=fun j it hj hit b hb hz=>by
   rcases hz with hz | rfl
   · exact hL.apart (i:=j+1) (j:=i+1) (by omega) (by simpa using hit) (by simpa using hi) b hb hz
   · exact hp.1 _ (wC hit) b rfl hb
 refine ⟨_,hst,hL.step (X:=fun b=>b=g0) hc' (fun b hb _=>⟨_,wI _ hm,.inr (.inl (by rw [hF0,hb]))⟩) (fun it hit=>?_) (fun it hit b hb hl=>?_) (PU hp.2 fun j it hj hit=>⟨fun b hb hz=>hap j it hj hit b hb (hFn b hz),fun b hz hb=>hap j it hj hit b hb (hFn b hz)⟩)⟩
 · obtain ⟨j,hj⟩:=Ik hit;by_cases hji:j=i
   · subst hji;rw [EU (List.getElem?_eq_some_iff.1 hi).1] at hj;cases hj;refine ⟨?_,?_,?_,?_,h7,?_,?_,?_⟩
     · show nS _ x.b T #[V g.f,V g.st,.slice x.A (g.ws.set k (List.replicate n 0)).length x.c];rw [wV];unfold nS at h1 ⊢;rw [hne _ (fun e=>h7 (by rw [hF0,e]))];exact h1
     · have hB2:nS (w.setCell ⟨g0,k,none⟩ (.slice (some ⟨q,0,none⟩) n n)) q 3 ((List.replicate n (0:Int)).map V).toArray:=by rw [hmap,<-Array.toList_replicate,Array.toArray_toList];unfold nS at hB ⊢;rw [hne _ hqg];exact hB
       exact Gw.put (h2.st fun b hb=>hne b (fun e=>h8 b hb (by rw [hF0,e]))) hkl hB2
     · show Go.Fw.Own _ 0 22 1 x.A (g.ws.set k (List.replicate n 0)).length x.c _;rw [wV,O9 h2.len hkl,List.length_replicate,hA];exact Go.Fw.Own.set h3' k _
     · intro hb;rcases EO hb with hb | hb
       · exact h4 hb
       · exact hq x.b (.inl rfl) hb
     · intro r hr hz;rcases EO hr with hr | rfl
       · exact h8 r hr hz
       · exact hq _ (.inr (.inl hz)) rfl
     · exact Ll h9 fun hb=>hq q (.inr (.inr hb)) rfl
     · intro l2 hl2;rcases EO hl2 with hl2 | rfl
       · exact h10 l2 hl2
       · rw [List.length_replicate,<-hn];exact h10 l (wC hk)
   · rw [DZ (Ne.symm hji)] at hj;refine it.st w _ (hL.at (i:=j+1) (by simpa using hj)) (fun b hb=>hne b fun e=>?_) hc.size;subst e;exact hap j it hji hj b hb (.inl (.inr (.inl hF0)))
 · obtain ⟨j,hj⟩:=Ik hit;by_cases hji:j=i
   · subst hji;rw [EU (List.getElem?_eq_some_iff.1 hi).1] at hj;cases hj;rcases hFn b hb with hb | rfl
     · exact ⟨_,wI _ hm,hb⟩
     · exact ⟨_,Bn ..,rfl⟩
   · rw [DZ (Ne.symm hji)] at hj;exact ⟨it,wI _ (wC hj),hb⟩
end
theorem Yb:jH prog 79:=⟨_,func79,by kernel_rfl,by kernel_rfl⟩
theorem Ou:jH prog 80:=⟨_,func80,by kernel_rfl,by kernel_rfl⟩
theorem TK {w:World}{A:Nat->Prop}{x:vV}{g:qx}{e:jA}{a:Option Addr}{c k j:Nat}{l:List Int}{n:Int}(hP:Pre w A [uw x g] [])(hk:e.g=(k:Int))(hl:g.ws[k]?=some l)(hjl:j < l.length)(hj:e.e=2->e.d=(j:Int))(hj2:e.e≠2->j=0) :Calls prog 79 #[Pt x.b,.agg (cE e a c).toArray,V n] w (pU fun r w'=>r=.tuple #[]/\Bx w w' A (lH [uw x g]) [uw x { g with ws:=setW g.ws (k,j) n }] []):=by
 have b:=hP.bx;clear hP;generalize hG:lH _=G at b ⊢;refine cf func79 rfl ?_;refine lG [(0,Pt x.b),(1,.agg (cE e a c).toArray),(2,V n)] ⟨rfl,rfl,rfl,trivial⟩ fun av=>?_;refine go ?_;refine su b (uK rfl) fun w1 b4 b=>?_;obtain ⟨r1,hr,_,h5,_⟩:=It.tO (b.at 1 rfl) hl;refine goC b ?_;refine ou rfl (fun h2=>?_) (fun h2=>?_)
 · refine go ?_;refine ql (fun _=>True) (fun u=>Bx w u A G [.box b4 135 (cE e a c).toArray,uw x g] []) [12] (by kernel_rfl) ?_;replace b:=b.drew;refine pL 0 r (oF r) lF b (pL 1 r (xn r) lF b (pL 2 r (yG r r) lF b (tS 14 3 r (fun _ h=>yK r (It.o9 (h.at 1 r)) r r) (kJ lF b) (pL 4 r (yG r r) lF b (tS 14 5 r (fun _ h=>yK r (h.bk 0 r) r r) (kJ lF b) (pL 6 r (AV k h5 underlying93 xg r r hk (jU hl)) lF b (tS 14 7 r (fun _ h=>jV (a:=⟨nE x.A,ow x.A+k * 1,none⟩) underlying22 r r (uW (h.at 1 r) hr hl)) (kJ lF b) (pL 8 r (yG r r) lF b (tS 14 9 r (fun _ h=>yK r (h.bk 0 r) r r) (kJ lF b) (pL 10 r (mi r) lF b (pL 11 r (xIdx j underlying22 ny r r (hj h2) hjl) lF b ?_)))))))))));refine hO 12 (os r r (CY b 1 r hr hl hjl (congrArg (fun z=>Value.pointer (some ⟨r1,z,none⟩)) (by omega:0+j * 1=j)) r) ?_);intro w2 b;refine ⟨sy 12 lF,hD ?_⟩;refine go ?_;exact kH (AQ (P:=prog) (fn:=f79) rfl ⟨rfl,b.tl⟩)
 · obtain rfl:=hj2 h2;refine go ?_;refine ql (fun _=>True) (fun u=>Bx w u A G [.box b4 135 (cE e a c).toArray,uw x g] []) [10] (by kernel_rfl) ?_;replace b:=b.drew;refine pL 0 r (oF r) lF b (pL 1 r (xn r) lF b (pL 2 r (yG r r) lF b (tS 14 3 r (fun _ h=>yK r (It.o9 (h.at 1 r)) r r) (kJ lF b) (pL 4 r (yG r r) lF b (tS 14 5 r (fun _ h=>yK r (h.bk 0 r) r r) (kJ lF b) (pL 6 r (AV k h5 underlying93 xg r r hk (jU hl)) lF b (tS 14 7 r (fun _ h=>jV (a:=⟨nE x.A,ow x.A+k * 1,none⟩) underlying22 r r (uW (h.at 1 r) hr hl)) (kJ lF b) (pL 8 r (mi r) lF b (pL 9 r (xIdx 0 underlying22 ny r r r hjl) lF b ?_)))))))));refine hO 10 (os r r (CY b 1 r hr hl hjl r r) ?_);intro w2 b;refine ⟨sy 10 lF,hD ?_⟩;exact AQ (P:=prog) (fn:=f79) rfl ⟨rfl,b.tl⟩
theorem PW {fu:Nat}{w:World}{A:Nat->Prop}{R:Rn}{m:BX}{n k h o:Nat}{v:Int}{x:vV}{g:qx}{y:jI}{a7:Option Addr}{c7:Nat}{a10:Option Addr}{c10:Nat}{a11:Option Addr}{c11:Nat}{a12:Option Addr}{c12:Nat}{p:Pn Int}(hP:Pre w A [iM R m n k h o 0 v,uw x g] [.l a10 c10 y.a])(ha:∀ e ∈ y.a,OX e)(hm:U1 (xD fu g.ws) y.a=some p)(hq:Eg p) :Calls prog 80 #[Pt R.rb,Pt x.b,.agg (cS y a7 c7 a10 c10 a11 c11 a12 c12).toArray] w (pU fun r w'=>∃ v',Bx w w' A (lH [iM R m n k h o 0 v,uw x g]) [iM R m n k h o 0 v',uw x g] []/\((∃ n,p=.ok n/\r=.tuple #[V n,.bool true])\/(∃ z,p=.uP v'/\r=.tuple #[V z,.bool false]))):=by
 have b:=hP.bx;clear hP;generalize hG:lH _=G at b ⊢;refine cf func80 rfl ?_;refine lG [(0,Pt R.rb),(1,Pt x.b),(2,.agg (cS y a7 c7 a10 c10 a11 c11 a12 c12).toArray)] ⟨rfl,rfl,rfl,trivial⟩ fun av=>?_;refine go ?_;refine su b (uK rfl) fun w1 b5 b=>?_;refine goC b ?_;cases hA:y.a with
 | nil=>rw [hA] at hm;cases hm;exact hq.elim
 | cons e l=>
  rw [hA] at hm;refine Ti b 0 rfl (show y.a[0]?=some e by rw [hA];rfl) rfl rfl rfl fun a2 c2 b=>?_;refine pW (l6 PZ rfl) (WJ fu (b.pr [1,2] [0] [0] rfl) (ha e (by rw [hA];exact Bn ..)) hm hq) ?_;rintro _ w2 ⟨v',hK,hr⟩;replace b:=b.cn [1,2] [0] hK;have hb:=(b.arr [0,1] rfl).dp [];rcases hr with ⟨n1,rfl,rfl⟩|⟨z,rfl,rfl⟩
  · refine go ?_;exact kH (ng (fn:=f80) rfl (kL rfl) (kL rfl) ⟨v',hb,.inl ⟨_,rfl,rfl⟩⟩)
  · refine go ?_;exact kH (ng (fn:=f80) rfl (kL rfl) (kL rfl) ⟨v',hb,.inr ⟨_,rfl,rfl⟩⟩)
inductive Hl:jI→Prop
 | mk {y:jI} (ta:∀ e ∈ y.d,OX e) (ar:∀ e ∈ y.a,OX e) (ct:y.c=3->∀ e ∈ y.d,e.e≠3) (bo:∀ z ∈ y.e,Hl z) (el:∀ z ∈ y.h,Hl z):Hl y
section
variable {y:jI}
theorem Hl.ta (h:Hl y):∀ e ∈ y.d,OX e:=by cases h;assumption
theorem Hl.ar (h:Hl y):∀ e ∈ y.a,OX e:=by cases h;assumption
theorem Hl.ct (h:Hl y):y.c=3->∀ e ∈ y.d,e.e≠3:=by cases h;assumption
theorem Hl.bo (h:Hl y):∀ z ∈ y.e,Hl z:=by cases h;assumption
theorem Hl.el (h:Hl y):∀ z ∈ y.h,Hl z:=by cases h;assumption
end
theorem Ip {fu:Nat}{ws:List (List Int)}{l:List jA}{k:Int}(h:U1 (xD fu ws) l=some (.err k)):k=4:=by
 cases l with
 | nil=>cases h
 | cons e l=>exact Bg fu h
theorem aaq:jH prog 77:=⟨_,func77,by kernel_rfl,by kernel_rfl⟩
theorem SH {fu:Nat}{w:World}{A:Nat->Prop}{R:Rn}{m:BX}{n k h o:Nat}{v:Int}{x:vV}{y:jI}{a7:Option Addr}{c7:Nat}{a10:Option Addr}{c10:Nat}{a11:Option Addr}{c11:Nat}{a12:Option Addr}{c12:Nat}{s s':Sg}{p:Pn (Option Int)}(hP:Pre w A [iM R m n k h o 0 v,uw x s.a] (dS y a7 c7 a10 c10 a11 c11 a12 c12))(ha:Hl y)(hm:Kh (xD fu s.a.ws) s.a.ws y.d s (fun q=>one (xD fu s.a.ws) y.a s fun v=>some (.ok none,{ s with a:={ s.a with ws:=setW s.a.ws q v } }))=some (p,s'))(hq:JU p) :Calls prog 77 #[Pt R.rb,Pt x.b,.agg (cS y a7 c7 a10 c10 a11 c11 a12 c12).toArray] w (pU fun r w'=>∃ how v',r=V how/\Hw p how 0 v'/\Bx w w' A (lH [iM R m n k h o 0 v,uw x s.a]) [iM R m n k h o 0 v',uw x s'.a] []/\s'.hist=s.hist/\s'.out=s.out):=by
 have b:=hP.bx;clear hP;generalize hG:lH _=G at b ⊢;refine cf func77 rfl ?_;refine lG [(0,Pt R.rb),(1,Pt x.b),(2,.agg (cS y a7 c7 a10 c10 a11 c11 a12 c12).toArray)] ⟨rfl,rfl,rfl,trivial⟩ fun av=>?_;refine go ?_;refine su b (uK rfl) fun w1 b5 b=>?_;refine goC b ?_;obtain ⟨q,hq1,hk⟩:=Fu hm;clear hm;cases hT:y.d with
 | nil=>
   rw [hT] at hq1;cases hq1;rcases hk with ⟨z,h,_⟩|⟨_,rfl,_⟩
   · cases h
   · exact hq.elim
 | cons e l0=>
 rw [hT] at hq1;have hae:=ha.ta e (by rw [hT];exact Bn ..);have hqe:Eg q:=by
   rcases hk with ⟨z,h,_⟩|⟨h,rfl,_⟩
   · subst h;trivial
   · obtain ⟨t,rfl⟩:=E9 hq h fun k h=>LV (fun _ _=>Bg fu) (show O4 (xD fu s.a.ws) s.a.ws e=some (.err k) by subst h;exact hq1);trivial
 obtain ⟨i,l,hi,hl,hk2⟩:=MF hq1 hqe;refine Ti b 0 rfl (show y.d[0]?=some e by rw [hT];rfl) rfl rfl rfl fun a2 c2 b=>?_;refine su b (jT jW) fun w2 b7 b=>?_;refine lD (oM b 0 (cE e a2 c2) rfl jW rfl rfl) fun w3 b=>?_;refine goC b ?_;by_cases h3:e.e=3
 · rw [qF h3];rcases hk2 with ⟨h,_⟩|⟨_,y1,r0,p1,hA,hp1,hq2,hk2⟩|⟨_,h,_⟩
   · omega
   case inr.inr=>exact absurd h3 h
   refine goC b ?_;refine kr (l7 (cE e a2 c2) mq jW rfl (b.bk 0 rfl)) ?_;refine pW (l6 Xw rfl) (adV fu (b.pr [2,3] [0,1] [0] rfl) (hae.k y1 (by rw [hA];exact Bn ..)) hi hl hA hp1 hq2) ?_;rintro _ w4 ⟨v1,hK,hz⟩;replace b:=b.cn [2,3] [0,1] hK;rcases hz with ⟨j,rfl,hjl,rfl⟩|⟨z,rfl,hz⟩
   · have hq3:q=.ok (i,j):=by
       rcases hk2 with ⟨t,h,_⟩|⟨n2,h,hb,_⟩|⟨j2,h,_,hq2⟩
       · cases h
       · cases h;omega
       · have:j=j2:=by have:=Pn.ok.inj h;omega
         subst this;exact hq2
     subst hq3;rcases hk with ⟨z,h,hk⟩|⟨h,_⟩
     case inr=>exact absurd rfl (h _)
     cases h;obtain ⟨q4,hq4,hk⟩:=zi hk;have hqe4:Eg q4:=by
       rcases hk with ⟨z,h,_⟩|⟨h,rfl,_⟩
       · subst h;trivial
       · obtain ⟨t,rfl⟩:=E9 hq h fun k h=>Ip (by subst h;exact hq4);trivial
     refine kr (xw (.tuple #[V (j:Int),.bool true]) rfl) ?_;refine goC b ?_;refine kr (l7 (cS y a7 c7 a10 c10 a11 c11 a12 c12) lu jQ rfl (b.bk 3 rfl)) ?_;refine pW (l6 Ou rfl) (PW (b.pr [0,1] [2,3] [2] rfl) ha.ar hq4 hqe4) ?_;rintro _ w5 ⟨v2,hK,hz⟩;replace b:=b.cn [0,1] [2,3] hK;rcases hz with ⟨n1,rfl,rfl⟩|⟨z,rfl,rfl⟩
     · rcases hk with ⟨z,h,hk⟩|⟨h,_⟩
       case inr=>exact absurd rfl (h _)
       cases h;obtain ⟨rfl,rfl⟩:=sK (vK hk);refine kr (xw (.tuple #[V n1,.bool true]) rfl) ?_;refine goC b ?_;rw [qF h3];refine go ?_;obtain ⟨r1,hr,_,h5,_⟩:=It.tO (b.at 1 rfl) hl;refine ql (fun _=>True) (fun u=>Bx w u A G [iM R m n k h o 0 v2,uw x s.a,.box b7 135 (cE e a2 c2).toArray] []) [11] (by kernel_rfl) ?_;replace b:=b.drew;have m2:=(b.arr [0,1,2] rfl).dp [];refine pL 0 r (oF r) lF m2 (pL 1 r (xn r) lF m2 (pL 2 r (yG r r) lF m2 (tS 14 3 r (fun _ h=>yK r (It.o9 (h.at 1 r)) r r) (kJ lF m2) (pL 4 r (yG r r) lF m2 (tS 14 5 r (fun _ h=>yK r (h.bk 2 r) r r) (kJ lF m2) (pL 6 r (AV i h5 underlying93 xg r r hi (jU hl)) lF m2 (tS 14 7 r (fun _ h=>jV (a:=⟨nE x.A,ow x.A+i * 1,none⟩) underlying22 r r (uW (h.at 1 r) hr hl)) (kJ lF m2) (pL 8 r (mi r) lF m2 (pL 9 r (mi r) lF m2 (pL 10 r (xIdx j underlying22 ny r r r hjl) lF m2 ?_))))))))));refine hO 11 (os r r (CY b 1 r hr hl hjl (congrArg (fun z=>Value.pointer (some ⟨r1,z,none⟩)) (by omega:0+j * 1=j)) r) ?_);intro w6 b;refine ⟨sy 11 lF,hD ?_⟩;refine go ?_;exact kH (jC rfl (kL rfl) ⟨0,v2,rfl,⟨rfl,rfl⟩,(b.arr [0,1] rfl).dp [],rfl,rfl⟩)
     · rcases hk with ⟨z,h,hk⟩|⟨h,rfl,rfl⟩
       · cases h
       refine kr (xw (.tuple #[V z,.bool false]) rfl) ?_;refine goC b ?_;exact kH (jC rfl (kL rfl) ⟨2,v2,rfl,⟨rfl,rfl,rfl⟩,(b.arr [0,1] rfl).dp [],rfl,rfl⟩)
   · have hq3:q=.uP v1:=by
       rcases hk2 with ⟨t,h,hq2⟩|⟨n2,h,hb,hq2⟩|⟨j2,h,_,hq2⟩
       · rcases hz with hz | ⟨n3,hz,_⟩
         · rw [h] at hz;cases hz;exact hq2
         · rw [h] at hz;cases hz
       · rcases hz with hz | ⟨n3,hz,_,rfl⟩
         · rw [h] at hz;cases hz
         · exact hq2
       · rcases hz with hz | ⟨n3,hz,hb,_⟩
         · rw [h] at hz;cases hz
         · rw [h] at hz;cases hz;omega
     subst hq3;rcases hk with ⟨z,h,_⟩|⟨_,rfl,rfl⟩
     · cases h
     refine kr (xw (.tuple #[V z,.bool false]) rfl) ?_;refine goC b ?_;exact kH (jC rfl (kL rfl) ⟨2,v1,rfl,⟨rfl,rfl,rfl⟩,(b.arr [0,1] rfl).dp [],rfl,rfl⟩)
 · rw [oz h3];obtain ⟨j,hjl,rfl,hj,hj2⟩:∃ j,j < l.length/\q=.ok (i,j)/\(e.e=2->e.d=(j:Int))/\(e.e≠2->j=0):=by
     rcases hk2 with ⟨h,j,h1,h2,h4⟩|⟨h,_⟩|⟨h,_,h1,h2⟩
     · exact ⟨j,h2,h4,fun _=>h1,fun z=>absurd h z⟩
     · exact absurd h h3
     · exact ⟨0,h1,h2,fun z=>absurd z h,fun _=>rfl⟩
   rcases hk with ⟨z,h,hk⟩|⟨h,_⟩
   case inr=>exact absurd rfl (h _)
   cases h;obtain ⟨q4,hq4,hk⟩:=zi hk;have hqe4:Eg q4:=by
     rcases hk with ⟨z,h,_⟩|⟨h,rfl,_⟩
     · subst h;trivial
     · obtain ⟨t,rfl⟩:=E9 hq h fun k h=>Ip (by subst h;exact hq4);trivial
   refine goC b ?_;refine kr (l7 (cS y a7 c7 a10 c10 a11 c11 a12 c12) lu jQ rfl (b.bk 1 rfl)) ?_;refine pW (l6 Ou rfl) (PW (b.pr [2,3] [0,1] [2] rfl) ha.ar hq4 hqe4) ?_;rintro _ w5 ⟨v2,hK,hz⟩;replace b:=b.cn [2,3] [0,1] hK;rcases hz with ⟨n1,rfl,rfl⟩|⟨z,rfl,rfl⟩
   · rcases hk with ⟨z,h,hk⟩|⟨h,_⟩
     case inr=>exact absurd rfl (h _)
     cases h;obtain ⟨rfl,rfl⟩:=sK (vK hk);refine kr (xw (.tuple #[V n1,.bool true]) rfl) ?_;refine goC b ?_;rw [oz h3];refine goC b ?_;refine kr (l7 (cE e a2 c2) mq jW rfl (b.bk 2 rfl)) ?_;refine goC b ?_;refine pW (l6 Yb rfl) (TK (b.pr [1] [0,2,3] [] rfl) hi hl hjl hj hj2) ?_;rintro _ w6 ⟨rfl,hK⟩;replace b:=b.cn [1] [0,2,3] hK;refine go ?_;exact kH (jC rfl (kL rfl) ⟨0,v2,rfl,⟨rfl,rfl⟩,(b.arr [1,0] rfl).dp [],rfl,rfl⟩)
   · rcases hk with ⟨z,h,hk⟩|⟨h,rfl,rfl⟩
     · cases h
     refine kr (xw (.tuple #[V z,.bool false]) rfl) ?_;refine goC b ?_;exact kH (jC rfl (kL rfl) ⟨2,v2,rfl,⟨rfl,rfl,rfl⟩,(b.arr [0,1] rfl).dp [],rfl,rfl⟩)
abbrev PD (R:Rn)(m:BX)(ptrs:List Nat)(x:vV)(s:Sg)(e v:Int):List It:=Mar R m ptrs s.hist s.out e v ++ [uw x s.a]
structure YH (w:World)(A:Nat->Prop)(R:Rn)(m:BX)(ptrs:List Nat)(x:vV)(s:Sg)(v:Int)(xs:List vV)(gs:List qx)(D:List Da):Prop where
 pre:Pre w A (PD R m ptrs x s 0 v) (D ++ oV R m s.hist s.out)
 lent:EH w (lH (PD R m ptrs x s 0 v)) xs gs
 hB:R.B<=w.heap.size
 hp:ptrs=(xs.map (·.b)).reverse ++ [x.b]
 hn:ptrs.length<=20
def Okr (w:World)(A:Nat->Prop)(R:Rn)(m:BX)(ptrs:List Nat)(x:vV)(s:Sg)(v:Int)(s':Sg)(p:Pn (Option Int))(r:Value)(w':World):Prop:=∃ m' x' how e v',x'.b=x.b/\r=V how/\Hw p how e v'/\Bx w w' A (lH (PD R m ptrs x s 0 v)) (PD R m' ptrs x' s' e v') (oV R m' s'.hist s'.out)
def CSr (R:Rn)(sm:List qx->Sm):Prop:=∀ {w:World}{A:Nat->Prop}{m:BX}{ptrs:List Nat}{x:vV}{s s':Sg}{v:Int}{xs:List vV}{gs:List qx}{y:jI}{a7:Option Addr}{c7:Nat}{a10:Option Addr}{c10:Nat}{a11:Option Addr}{c11:Nat}{a12:Option Addr}{c12:Nat}{p:Pn (Option Int)},YH w A R m ptrs x s v xs gs (dS y a7 c7 a10 c10 a11 c11 a12 c12)->Hl y->sm gs s y=some (p,s')->JU p-> Calls prog 51 #[Pt R.rb,Pt x.b,.agg (cS y a7 c7 a10 c10 a11 c11 a12 c12).toArray] w (pU (Okr w A R m ptrs x s v s' p))
def CBr (R:Rn)(sm:List qx->Sm):Prop:=∀ {w:World}{A:Nat->Prop}{m:BX}{ptrs:List Nat}{x:vV}{s s':Sg}{v:Int}{xs:List vV}{gs:List qx}{l:List jI}{a:Option Addr}{c:Nat}{p:Pn (Option Int)},YH w A R m ptrs x s v xs gs [.l a c l]->(∀ y ∈ l,Hl y)->EJ (sm gs) s l=some (p,s')->JU p-> Calls prog 31 #[Pt R.rb,Pt x.b,.slice a l.length c] w (pU (Okr w A R m ptrs x s v s' p))
theorem aaf:jH prog 51:=⟨_,func51,by kernel_rfl,by kernel_rfl⟩
theorem Ls:jH prog 31:=⟨_,func31,by kernel_rfl,by kernel_rfl⟩
theorem Hw.ne {p:Pn (Option Int)}{h e v:Int}(k:Hw p h e v)(hn:p≠.ok none):h≠0:=by
 cases p with
 | ok o=>cases o with
  | none=>exact absurd rfl hn
  | some n=>obtain ⟨rfl,_⟩:=k;decide
 | uP t=>obtain ⟨rfl,_⟩:=k;decide
 | err t=>obtain ⟨rfl,_⟩:=k;decide
 | rt=>exact k.elim
theorem Pp {R:Rn}{sm:List qx->Sm}(hS:CSr R sm):CBr R sm:=by
 intro w A m ptrs x s s' v xs gs l a c p hR ha hm hq;obtain ⟨hP,hl,hB,hp,hn⟩:=hR;have b:=hP.bx;clear hP;unfold Okr;generalize hG:lH (PD R m ptrs x s 0 v)=G at b hl ⊢;refine cf func31 rfl ?_;refine lG [(0,Pt R.rb),(1,Pt x.b),(2,.slice a l.length c)] ⟨rfl,rfl,rfl,trivial⟩ fun av=>?_;have hbd:=(b.dl 0 rfl).bd;refine goC b ?_
 refine kK (fun aw f w'=>∃ (t:Nat)(s1:Sg)(m1:BX)(x1:vV)(v1:Int),aw=l.length - t∧t≤l.length∧x1.b=x.b∧
     Has f [(0,Pt R.rb),(1,Pt x.b),(10,.slice a l.length c),(11,V (l.length:Int)),(12,V (t:Int))]/\
     Bx w w' A G (PD R m1 ptrs x1 s1 0 v1) (.l a c l :: oV R m1 s1.hist s1.out)/\EJ (sm gs) s1 (l.drop t)=some (p,s'))
   l.length ⟨0,s,m,x,v,rfl,uy _,rfl,⟨rfl,rfl,rfl,rfl,rfl,trivial⟩,b,hm⟩ ?_
 clear b hm;rintro aw f w1 ⟨t,s1,m1,x1,v1,rfl,ht,hx1,hf,b,hm⟩ J hJ;obtain ⟨av,rfl⟩:=mJ _ _ hf;clear hf;refine goC b ?_;refine ou rfl (fun h=>?_) (fun h=>?_)
 · obtain ⟨y,hy⟩:=lZ (l:=l) (k:=t) (by omega);rw [mD hy,EJ] at hm;obtain ⟨⟨q,s2⟩,h1,hm⟩:=bs hm;refine goC b ?_;refine aa6 b 0 rfl hy rfl rfl rfl fun a7 c7 a10 c10 a11 c11 a12 c12 b=>?_;refine su b (jT jQ) fun w2 b9 b=>?_;refine lD (oM b 0 (cS y a7 c7 a10 c10 a11 c11 a12 c12) rfl jQ rfl rfl) fun w3 b=>?_;refine goC b ?_;refine kr (l7 (cS y a7 c7 a10 c10 a11 c11 a12 c12) lu jQ rfl (b.bk 0 rfl)) ?_;have hr:YH w3 (Ei w A (pick _ [1,2,3,4,5] ++ pick _ [0])) R m1 ptrs x1 s1 v1 xs gs (dS y a7 c7 a10 c10 a11 c11 a12 c12):=⟨b.pr [1,2,3,4,5] [0] [0,1,2,3,5,6,7,8,9,10] rfl,xQ b hl (fun it hi=>wI _ hi),q9 hB b.rM.size,by rw [hx1];exact hp,hn⟩;have hq1:JU q:=by
     cases q with
     | ok o=>trivial
     | _=>obtain ⟨rfl,rfl⟩:=sK (vK hm);exact hq
   have hc:=hS hr (ha y (wC hy)) h1 hq1;rw [hx1] at hc;clear hr;refine pW (l6 aaf rfl) hc ?_;rintro _ w4 ⟨m4,x4,how,e4,v4,hx4,rfl,hw,hK⟩;replace b:=b.cn [1,2,3,4,5] [0] hK;replace b:=(b.arr [0,1,2,3,4] rfl).dp [10,0,1,2,3,4,5];refine goC b ?_;by_cases hno:q=.ok none
   · subst hno;obtain ⟨rfl,rfl⟩:=hw;refine go ?_;exact hJ (l.length - (t+1)) _ _ (by omega) ⟨t+1,s2,m4,x4,v4,rfl,by omega,hx4.trans hx1,⟨rfl,rfl,rfl,rfl,congrArg V (Px (t:=t) (by omega)),trivial⟩,b,hm⟩
   · rw [qF (hw.ne hno)];have hpq:p=q/\s'=s2:=by
      cases q with
      | ok o=>cases o with
       | none=>exact absurd rfl hno
       | some n=>obtain ⟨h1,h2⟩:=sK (vK hm);exact ⟨h1.symm,h2.symm⟩
      | _=>obtain ⟨h1,h2⟩:=sK (vK hm);exact ⟨h1.symm,h2.symm⟩
     obtain ⟨rfl,rfl⟩:=hpq;refine go ?_;exact kH (jC rfl (kL rfl) ⟨m4,x4,how,e4,v4,hx4.trans hx1,rfl,hw,b.dp [1,2,3,4,5,6]⟩)
 · obtain rfl:t=l.length:=by omega
   rw [lW,EJ] at hm;obtain ⟨rfl,rfl⟩:=sK (vK hm);refine goC b ?_;refine uS ?_;refine goC b ?_;exact kH (jC rfl (kL rfl) ⟨m1,x1,0,0,v1,hx1,rfl,⟨rfl,rfl⟩,b.dp [1,2,3,4,5,6]⟩)
section
variable {ρ:Operand->Value}{w:World}{d:Option Nat}{ty:TypeId}{pos:String}{af:Array Edge}{g:Option (Nat × Bool)}{x y z:Operand}{n m:Int}{b:Nat}
theorem Xm (h:ρ x=Vi n):Yl prog ρ (.build 103 #[(0,x)]) d ty pos af g w (.agg #[Vi n,Vi 0,sn]):=by
 have e:(Instr.build 103 #[(0,Vi n)]).run prog w=.ok (.agg #[Vi n,Vi 0,sn]) w:=by kernel_rfl
 simp [Yl,execOp,h,e]
theorem UY (h:ρ x=Pt b):(execOp ρ ⟨d,.buildSlice 74 1 #[(0,x)],ty,pos,af,g⟩).run prog w=.ok (.value (.slice (some ⟨w.heap.size,0,none⟩) 1 1)) (w.alloc (.cells #[Pt b] 101)):=by
 have e:(Instr.buildSlice 74 1 #[(0,Pt b)]).run prog w=.ok (.slice (some ⟨w.heap.size,0,none⟩) 1 1) (w.alloc (.cells #[Pt b] 101)):=by kernel_rfl
 simp [execOp,h,e]
theorem Vx:(execOp ρ ⟨d,.buildSlice 74 0 #[],ty,pos,af,g⟩).run prog w=.ok (.value (.slice (some ⟨w.heap.size,0,none⟩) 0 0)) (w.alloc (.cells #[] 101)):=by
 have e:(Instr.buildSlice 74 0 #[]).run prog w=.ok (.slice (some ⟨w.heap.size,0,none⟩) 0 0) (w.alloc (.cells #[] 101)):=by kernel_rfl
 simp [execOp,e]
end
def Hc:Pn Int→Int→Int→Int→Prop
 | .ok n,h,e,v=>h=1/\e=0/\v=n
 | .uP t,h,e,v=>h=2/\e=0/\v=t
 | .err k,h,e,_=>h=3/\e=k
 | .rt,_,_,_=>False
theorem UM {sm:Sm}{e:jI}(hE:∀ s p s',sm s e=some (p,s')→p≠.ok none):∀ {l:List jI}{s s':Sg}{p:Pn (Option Int)},EJ sm s (l ++ [e])=some (p,s')→p≠.ok none
 | [],s,s',p,h=>by
  rw [Gg,EJ] at h;obtain ⟨⟨q,s1⟩,h1,h⟩:=bs h;have:=hE _ _ _ h1;cases q with
  | ok o=>cases o with
   | none=>exact absurd rfl this
   | some n=>obtain ⟨rfl,_⟩:=sK (vK h);exact this
  | _=>obtain ⟨rfl,_⟩:=sK (vK h);exact this
 | y :: l,s,s',p,h=>by
  rw [List.cons_append,EJ] at h;obtain ⟨⟨q,s1⟩,h1,h⟩:=bs h;cases q with
  | ok o=>cases o with
   | none=>exact UM hE h
   | some n=>obtain ⟨rfl,_⟩:=sK (vK h);intro z;cases z
  | _=>obtain ⟨rfl,_⟩:=sK (vK h);intro z;cases z
theorem Sr {sm:List qx->Sm}{src:jL}{stk:List qx}{f:Int}{args:List Int}{hist h:List kC}{out o:List Int}{p:Pn Int}(hm:AB sm src stk f args hist out=some (p,h,o))(hq:JU p) :(20<=stk.length/\p=.err 5/\h=hist/\o=out)\/(stk.length < 20/\∃ vars ws0 ws fn p2 s2,ix? src.c f=some vars/\BP vars []=some (.ok ws0)/\Dv args 0 ws0=.ok ws/\ix? src.a.b f=some fn/\EJ (sm stk) ⟨⟨f,0,ws⟩,hist,out⟩ fn.e=some (p2,s2)/\h=s2.hist/\o=s2.out/\JU p2/\p=(match p2 with | .ok r=>.ok (r.getD 0)|p=>p.up)):=by
 unfold AB at hm;rcases jB hm with ⟨h1,hm⟩|⟨h1,hm⟩
 · cases hm;exact .inl ⟨h1,rfl,rfl,rfl⟩
 refine .inr ⟨by omega,?_⟩;cases hv:ix? src.c f with
 | none=>rw [hv] at hm;cases hm;exact hq.elim
 | some vars=>
   rw [hv] at hm;obtain ⟨q,hq1,hm⟩:=bs hm;have hi4:∀ (vs:List jy)(acc:List (List Int))(q:Pn (List (List Int))),BP vs acc=some q->(∃ ws,q=.ok ws)\/q=.err 4:=by
     intro vs
     induction vs with
     | nil=>intro acc q h;cases h;exact .inl ⟨_,rfl⟩
     | cons v vs ih=>
       intro acc q h;rw [BP] at h;rcases jB h with ⟨_,h⟩|⟨_,h⟩
       · cases h;exact .inr rfl
       · obtain ⟨a2,_,h⟩:=bs h;exact ih _ _ h
   have ha4:∀ (l:List Int)(i:Nat)(acc:List (List Int)),(∃ ws,Dv l i acc=.ok ws)\/Dv l i acc=.rt:=by
     intro l
     induction l with
     | nil=>intro i acc;exact .inl ⟨_,rfl⟩
     | cons v l ih=>
       intro i acc;rw [Dv];cases acc[i]? with
       | none=>exact .inr rfl
       | some r=>cases r with
         | nil=>exact .inr rfl
         | cons z r=>exact ih _ _
   rcases hi4 _ _ _ hq1 with ⟨ws0,rfl⟩ | rfl
   · dsimp only at hm;rcases ha4 args 0 ws0 with ⟨ws,hw⟩ | hw
     · rw [hw] at hm;dsimp only at hm;cases hf:ix? src.a.b f with
       | none=>rw [hf] at hm;cases hm;exact hq.elim
       | some fn=>
         rw [hf] at hm;obtain ⟨⟨p2,s2⟩,h2,hm⟩:=bs hm;have h3:=vK hm;obtain ⟨h4,h5⟩:=sK h3;obtain ⟨h6,h7⟩:=sK h5;refine ⟨vars,ws0,ws,fn,p2,s2,rfl,hq1,hw,rfl,h2,h6.symm,h7.symm,?_,h4.symm⟩;cases p2 with
         | ok r=>trivial
         | uP t=>trivial
         | err e=>rw [<-h4] at hq;exact hq
         | rt=>rw [<-h4] at hq;exact hq
     · rw [hw] at hm;cases hm;exact hq.elim
   · cases hm;exact absurd rfl hq
def Sn (fn:kW):Prop:=(∀ y ∈ fn.e,Hl y)/\∃ l e,fn.e=l ++ [e]/\e.c=10
def Xq (sm:List qx->Sm):Prop:=∀ gs s (y:jI) p s',y.c=10->sm gs s y=some (p,s')->p≠.ok none
def CRr (R:Rn)(sm:List qx->Sm):Prop:=∀ {w:World}{A:Nat->Prop}{m:BX}{ptrs:List Nat}{hist h:List kC}{out o:List Int}{v:Int}{xs:List vV}{gs:List qx}{f:Int}{args:List Int}{a:Option Addr}{c:Nat}{p:Pn Int},Pre w A (Mar R m ptrs hist out 0 v) (.l a c args :: oV R m hist out)->EH w (lH (Mar R m ptrs hist out 0 v)) xs gs->R.B<=w.heap.size->ptrs=(xs.map (·.b)).reverse->ptrs.length<=20->AB sm R.src gs f args hist out=some (p,h,o)->JU p-> Calls prog 21 #[Pt R.rb,V f,.slice a args.length c] w (pU fun r w'=>∃ m' how e v',r=V how/\Hc p how e v'/\Bx w w' A (lH (Mar R m ptrs hist out 0 v)) (Mar R m' ptrs h o e v') (oV R m' h o))
theorem aaw:TI prog 74 sn 1 24:=oW (by kernel_rfl)
theorem Xz:jH prog 21:=⟨_,func21,by kernel_rfl,by kernel_rfl⟩
theorem Uk {R:Rn}{sm:List qx->Sm}(hS:CBr R sm)(hF:∀ fn ∈ R.src.a.b,Sn fn)(hEn:Xq sm):CRr R sm:=by
 intro w A m ptrs hist ho out o v xs gs f args a c p hP hl hB hp hn hm hq;have b:=hP.bx;clear hP;generalize hG:lH (Mar R m ptrs hist out 0 v)=G at b hl ⊢;refine cf func21 rfl ?_;refine lG [(0,Pt R.rb),(1,V f),(2,.slice a args.length c)] ⟨rfl,rfl,rfl,trivial⟩ fun av=>?_;have hlen:ptrs.length=gs.length:=by rw [hp,List.length_reverse,xR,hl.len]
 refine goC b ?_;rcases Sr hm hq with ⟨h20,rfl,rfl,rfl⟩|⟨h20,vars,ws0,wsF,fn,p2,s2,hv,hq1,hq2,hfn,h1,rfl,rfl,hg2,rfl⟩
 · rw [qF (by omega)];refine goC b ?_;refine lD (t_n b 0 [V 5] rfl MB rfl rfl) fun w2 b=>?_;refine go ?_;exact kH (jC rfl (kL rfl) ⟨m,3,5,v,rfl,⟨rfl,rfl⟩,b.dp [1,2,3,4,5,6]⟩)
 clear hm;rw [oz (by omega)];have hlt:ptrs.length+1<=20:=by omega
 refine go ?_;refine kr (Xm rfl) ?_;refine su b (uK rfl) fun w1 b7 b=>?_;refine goC b ?_;obtain ⟨kf,rfl,hvk⟩:=RA hv;obtain ⟨cs0,hr0,b⟩:=b.nm 5 rfl hvk;obtain ⟨a3,c3,rfl,hv3⟩:=hr0;replace b:=b.kF (d:=.l a3 c3 vars) hv3;refine kr (kY underlying27 Gq rfl rfl rfl (b.dl 7 rfl) hvk) (kr (jV underlying96 rfl rfl ((b.dc 1 rfl) 0 _ rfl)) ?_);have hbd:=(b.dl 0 rfl).bd;replace b:=aaS (b.Cy RV 22);replace b:=(b.arr [2,1,0,3,4,5,6] rfl).dp [0,1,3,4,5,6,7,8,9];refine goC b ?_
 refine kK (fun aw f' w'=>∃ (t:Nat)(ws:List (List Int))(A1:Option Addr)(c1:Nat)(cs:List (List Value))(Rr:List Nat),aw=vars.length - t∧t≤vars.length∧Rr.length=ws.length∧
     Has f' [(0,Pt R.rb),(1,V (kf:Int)),(2,.slice a args.length c),(7,Pt b7),(33,.slice a3 vars.length c3),(34,V (vars.length:Int)),(35,V (t:Int))]/\
     Bx w w' A G (.box b7 103 #[V (kf:Int),V 0,.slice A1 ws.length c1] :: .own w.heap.size A1 c1 22 (Rp.sz RV) cs :: It.rws Rr ws :: Mar R m ptrs hist out 0 v) (.els cs (hdl Rr ws) :: .l a3 c3 vars :: .l a c args :: oV R m hist out)/\BP (vars.drop t) ws=some (.ok ws0))
   vars.length ⟨0,[],none,0,[],[],rfl,uy _,rfl,⟨rfl,rfl,rfl,rfl,rfl,rfl,rfl,trivial⟩,b,hq1⟩ ?_
 clear b hq1;rintro aw f w2 ⟨t,ws,A1,c1,cs,Rr,rfl,ht,hRl,hf,b,hq1⟩ J hJ;obtain ⟨av2,rfl⟩:=mJ _ _ hf;clear hf;refine goC b ?_;refine ou rfl (fun h=>?_) (fun h=>?_)
 · obtain ⟨u,hvt⟩:=lZ (l:=vars) (k:=t) (by omega);rw [mD hvt,BP] at hq1;refine goC b ?_;refine kr (kY underlying96 za rfl rfl rfl (b.dl 1 rfl) hvt) (kr (nA [T u.b,V u.c,V u.d,V u.a,.bool u.f,V u.e,V u.g] underlying98 rfl za rfl rfl (uo (b.dl 1 rfl) hvt (fun _ h=>h))) ?_);refine su b (jT za) fun w3 b9 b=>?_;refine lD (oM b 0 [T u.b,V u.c,V u.d,V u.a,.bool u.f,V u.e,V u.g] rfl za rfl rfl) fun w4 b=>?_;rcases jB hq1 with ⟨_,hq1⟩|⟨h8,hq1⟩
   · cases hq1
   obtain ⟨ws2,h2,hq1⟩:=bs hq1;obtain ⟨n,hn2⟩:∃ n:Nat,u.a=(n:Int):=⟨u.a.toNat,by omega⟩;have hn8:n<=8:=by omega
   rw [hn2,AY] at h2;obtain ⟨hcap,rfl⟩:=qG h2;have happ:∀ b10:Nat,app (hdl Rr ws) [(⟨some ⟨b10,0,none⟩,n,n⟩:RV)]=some (hdl (Rr ++ [b10]) (ws ++ [List.replicate n 0])):=fun b10=>by unfold app;rw [JB hRl,List.length_replicate,kg (by rw [Ci hRl];simpa using hcap)]
   refine go ?_;refine ql (fun z=>nS z b9 98 #[T u.b,V u.c,V u.d,V u.a,.bool u.f,V u.e,V u.g]) (fun z=>nS z b7 103 #[V (kf:Int),V 0,.slice A1 ws.length c1]) [12] (by kernel_rfl) ?_;replace b:=b.drew;have m1:nS w4.drew b9 98 #[T u.b,V u.c,V u.d,V u.a,.bool u.f,V u.e,V u.g]:=b.bk 0 rfl;have m2:nS w4.drew b7 103 #[V (kf:Int),V 0,.slice A1 ws.length c1]:=b.bk 1 rfl;refine pL 0 r (oF r) m1 m2 (pL 1 r (oF r) m1 m2 (pL 2 r (xn r) m1 m2 (pL 3 r (yG r r) m1 m2 (tS 14 4 r (fun _ h=>yK r h r r) (kJ m1 m2) (pL 5 r (yG r r) m1 m2 (tU 6 r (fun _ h=>yK r h r r) (kJ m1 m2) ?_))))));refine hO 7 (oo r r (aMk (V 0) b n underlying22 ny rfl r r hn2 (by omega) (by omega)) ?_);rintro _ w5 ⟨b10,_,rfl,b⟩;refine ⟨kJ (b.bk 1 rfl) (b.bk 2 rfl),?_⟩;refine hO 8 (oo r r (jO b [[.slice (some ⟨b10,0,none⟩) n n]] ([⟨some ⟨b10,0,none⟩,n,n⟩]:List RV) (Oy r) r r (by decide) ⟨rfl,trivial⟩) ?_);rintro _ w6 ⟨b11,rfl,b⟩;refine ⟨kJ (b.bk 2 rfl) (b.bk 3 rfl),?_⟩;refine hO 9 (oo r r (kR b 4 1 r r underlying93 xg r (by decide) (by decide) (oH _) (by show Value.slice A1 ws.length c1=_;rw [Ci hRl]) r (b.AR 0 0 r r) (happ b10)) ?_);rintro _ w7 ⟨A2,c2,cs2,rfl,b⟩;refine ⟨kJ (b.bk 2 rfl) (b.bk 3 rfl),pL 10 r (xn r) (b.bk 2 rfl) (b.bk 3 rfl) (pL 11 r (yG r r) (b.bk 2 rfl) (b.bk 3 rfl) ?_)⟩;refine hO 12 (os r r (t_n b 3 [.slice A2 (hdl (Rr ++ [b10]) (ws ++ [List.replicate n 0])).length c2] r Yj r r) fun w8 b=>⟨sy 12 (b.bk 2 rfl),hD ?_⟩);have hRl2:(Rr ++ [b10]).length=(ws ++ [List.replicate n (0:Int)]).length:=by simp [hRl]
   rw [Ci hRl2] at b;replace b:=b.arr [1,5,3,4,6,7,8,9] rfl;replace b:=QM b hn8;replace b:=(b.arr [1,2,0,3,4,5,6] rfl).dp [1,2,3,4,5,6,7,8,9];refine go ?_;exact hJ (vars.length - (t+1)) _ _ (by omega) ⟨t+1,_,A2,c2,cs2,_,rfl,by omega,hRl2,⟨rfl,rfl,rfl,rfl,rfl,rfl,congrArg V (Px (t:=t) (by omega)),trivial⟩,b,hq1⟩
 obtain rfl:t=vars.length:=by omega
 rw [lW,BP] at hq1;cases hq1;refine goC b ?_;refine uS ?_;refine goC b ?_;have hbd2:=(b.dl 2 rfl).bd
 refine kK (fun aw f' w'=>∃ (t:Nat)(ws1:List (List Int)),aw=args.length - t∧t≤args.length∧Rr.length=ws1.length∧
     Has f' [(0,Pt R.rb),(1,V (kf:Int)),(7,Pt b7),(52,.slice a args.length c),(53,V (args.length:Int)),(54,V (t:Int))]/\
     Bx w w' A G (.box b7 103 #[V (kf:Int),V 0,.slice A1 ws1.length c1] :: .own w.heap.size A1 c1 22 (Rp.sz RV) cs :: It.rws Rr ws1 :: Mar R m ptrs hist out 0 v) (.els cs (hdl Rr ws1) :: .l a c args :: oV R m hist out)/\Dv (args.drop t) t ws1=.ok wsF)
   args.length ⟨0,_,rfl,uy _,hRl,⟨rfl,rfl,rfl,rfl,rfl,rfl,trivial⟩,b.dp [0,2,3,4,5,6,7,8],hq2⟩ ?_
 clear b hq2 hRl;rintro aw f w3 ⟨t,ws1,rfl,ht,hRl,hf,b,hq2⟩ J2 hJ2;obtain ⟨av3,rfl⟩:=mJ _ _ hf;clear hf;refine goC b ?_;refine ou rfl (fun h=>?_) (fun h=>?_)
 · obtain ⟨u,hvt⟩:=lZ (l:=args) (k:=t) (by omega);rw [mD hvt,Dv] at hq2;refine goC b ?_;refine kr (kY underlying22 ny rfl rfl rfl (b.dl 1 rfl) hvt) (kr (jV underlying3 rfl rfl ((uo (ds:=[V u]) (b.dl 1 rfl) hvt (fun _ h=>h)) 0 _ rfl)) ?_);refine goC b ?_;cases hwt:ws1[t]? with
   | none=>rw [hwt] at hq2;cases hq2
   | some row=>
   rw [hwt] at hq2;have hrw:=b.at 2 rfl;obtain ⟨r0,hr0,hB0⟩:=hrw.1.get hwt;have how:Go.Fw.Own w3 w.heap.size 22 1 A1 cs.length c1 cs.flatten:=b.bo 1 rfl;rw [Io hRl (b.de 0 rfl)] at how;have hcell:=D5 how (FL hr0 hwt);refine kr (AV t hcell.1 underlying93 xg rfl rfl rfl (jU hwt)) ?_;refine kr (jV (a:=⟨nE A1,ow A1+t * 1,none⟩) underlying22 rfl rfl (by rw [Nat.mul_one];exact hcell.2.1)) ?_;refine goC b ?_;cases row with
   | nil=>cases hq2
   | cons z row=>
     refine kr (xIdx 0 underlying22 ny rfl rfl rfl (by simp)) ?_;refine lD (Q6 b 2 (j:=0) rfl hr0 hwt (by simp) rfl rfl) fun w4 b=>?_;rw [<-M7 (R:=Rr) (l':=u :: row) hwt (by simp)] at b;have e2:ws1.length=(ws1.set t (u :: row)).length:=by simp
     rw [e2] at b;refine go ?_;exact hJ2 (args.length - (t+1)) _ _ (by omega) ⟨t+1,ws1.set t (u :: row),rfl,by omega,by rw [<-e2];exact hRl,⟨rfl,rfl,rfl,rfl,rfl,congrArg V (Px (t:=t) (by omega)),trivial⟩,b,hq2⟩
 obtain rfl:t=args.length:=by omega
 rw [lW,Dv] at hq2;cases hq2;refine goC b ?_;refine uS ?_;refine goC b ?_;replace b:=Ye b 0 rfl;replace b:=b.dp [2,3,4,5,6,7];have happ:app (ptrs.map PB.mk) [PB.mk b7]=some ((ptrs ++ [b7]).map PB.mk):=by unfold app;rw [kg (by simp;omega),List.map_append];rfl
 refine nW (jO b [[Pt b7]] ([PB.mk b7]:List PB) (UY rfl) rfl rfl (by decide) ⟨rfl,trivial⟩) ?_;rintro _ w5 ⟨b10,rfl,b⟩;replace b:=b.kF (d:=.els (ptrs.map fun b=>[Pt b]) (ptrs.map PB.mk)) (MV ptrs);refine nW (kR (α:=PB) b 3 0 rfl rfl underlying74 RG rfl (by decide) (by decide) hB (by show Value.slice m.lA ptrs.length m.lC=_;rw [xR]) rfl (b.AR 0 1 rfl rfl) happ) ?_;rintro _ w6 ⟨A2,c2,cs2,rfl,b⟩;have hcs:=CU (b.de 0 rfl);subst hcs;refine goC b ?_;refine lD (t_n b 2 [.slice A2 ((ptrs ++ [b7]).map PB.mk).length c2] rfl aaw rfl rfl) fun w7 b=>?_;rw [xR] at b;replace b:=(b.arr [2,3,4,5,1] rfl).dp [2,3,4,5,6,7];refine goC b ?_;obtain ⟨kf2,hk2,hfk⟩:=RA hfn;obtain ⟨hArS,lb,le,hbody,hkind⟩:=hF fn (wC hfk);obtain ⟨cs0,hr0,b⟩:=b.nm 3 rfl hfk;obtain ⟨a5,c5,a6,c6,rfl,h5,h6⟩:=kW.out hr0;replace b:=b.kF (d:=.l a6 c6 fn.e) h6;refine kr (kY underlying24 oU rfl rfl hk2 (b.dl 5 rfl) hfk) ?_;refine goC b ?_;refine kr (jV underlying37 rfl rfl ((b.dc 1 rfl) 3 _ rfl)) ?_;have hr:YH w7 (Ei w A (pick _ [0,1,2,3,4] ++ pick _ [])) R { m with lA:=A2,lC:=c2 } (ptrs ++ [b7]) ⟨b7,A1,c1,Rr⟩ ⟨⟨(kf:Int),0,wsF⟩,hist,out⟩ v xs gs [.l a6 c6 fn.e]:=
   ⟨b.pr [0,1,2,3,4] [] [0,2,3,4,5,6,7] rfl,xQ b hl (fun it hi=>hi),q9 hB b.rM.size,by rw [hp],by rw [Dk,Gx];exact hlt⟩
 have hc:=hS hr hArS h1 hg2;clear hr;refine pW (l6 Ls rfl) hc ?_;rintro _ w8 ⟨m4,x4,how2,e4,v4,hx4,rfl,hw,hK⟩;replace b:=b.cn [0,1,2,3,4] [] hK;replace b:=(b.arr [0,1,2,3] rfl).dp [0,1,2,3,4,5];have hno:p2≠.ok none:=by rw [hbody] at h1;exact UM (fun s p s'=>hEn gs s le p s' hkind) h1
 refine go ?_;have hcap:=(b.bo 1 rfl).cap;rw [xR,Dk,Gx] at hcap;replace b:=b.kF (d:=.els ((ptrs ++ [b7]).map fun b=>[Pt b]) ((ptrs ++ [b7]).map PB.mk)) (MV _);have happ2:app ([]:List PB) (ptrs.map PB.mk)=some (ptrs.map PB.mk):=by unfold app;rw [kg (by simp;omega)];rfl
 refine ql (fun _=>True) (fun u=>nS u R.rb 76 (cM R m4 (ptrs ++ [b7]).length (window s2.hist R.fr R.mo).length s2.hist.length s2.out.length e4 v4).toArray) [16] (by kernel_rfl) ?_;replace b:=b.drew;have m2:nS w8.drew R.rb 76 (cM R m4 (ptrs ++ [b7]).length (window s2.hist R.fr R.mo).length s2.hist.length s2.out.length e4 v4).toArray:=b.bk 0 rfl;refine pL 0 r (oF r) lF m2 (pL 2 r (oF r) lF m2 (pL 3 r (xn r) lF m2 (pL 4 r (yG r r) lF m2 (tS 18 5 r (fun _ h=>yK r h r r) (kJ lF m2) (pL 6 r (oF r) lF m2 (pL 7 r (xn r) lF m2 (pL 8 r (yG r r) lF m2 (tS 18 9 r (fun _ h=>yK r h r r) (kJ lF m2) (pL 10 r (lT underlying74 r) lF m2 (pL 11 r (wY r r) lF m2 ?_))))))))));refine pL 12 r (zw ptrs.length underlying74 RG r r (by rw [Dk,Gx];unfold wr;rw [Pj (by omega) (by omega)];omega) (by omega)) lF m2 ?_;refine hO 1 (oo r r (jO b [] ([]:List PB) Vx r r (by decide) lF) ?_);rintro _ w9 ⟨b12,rfl,b⟩;refine ⟨kJ lF (b.bk 1 rfl),?_⟩;refine hO 13 (oo r r (kR (α:=PB) b 0 0 r r underlying74 RG r (by decide) (by decide) (oH _) r (by show Value.slice m4.lA ptrs.length m4.lC=Value.slice m4.lA (ptrs.map PB.mk).length m4.lC;rw [xR]) (b.BQ (n:=ptrs.length) (r:=ptrs.map PB.mk) 2 1 r r (by simp) (by simp)) happ2) ?_);rintro _ w10 ⟨A3,c3',cs3,rfl,b⟩;have hcs3:=CU (b.de 0 rfl);subst hcs3;refine ⟨kJ lF (b.bk 1 rfl),pL 14 r (xn r) lF (b.bk 1 rfl) (pL 15 r (yG r r) lF (b.bk 1 rfl) ?_)⟩;refine hO 16 (os r r (t_n b 1 [.slice A3 (ptrs.map PB.mk).length c3'] r aaw r r) ?_);intro w11 b;refine ⟨sy 16 lF,hD ?_⟩;rw [xR] at b;replace b:=(b.arr [1,0,3,4] rfl).dp [2,3,4,5,6,7];replace b:=b.rb 1 R.B rfl hB;refine go ?_;refine kH (jC (fn:=f21) rfl (kL rfl) ⟨{ m4 with lA:=A3,lC:=c3' },how2,e4,v4,rfl,?_,b⟩);cases p2 with
 | ok z=>cases z with
   | none=>exact absurd rfl hno
   | some n=>exact hw
 | uP t=>exact hw
 | err e=>exact hw
 | rt=>exact hw
theorem Ro:jH prog 78:=⟨_,func78,by kernel_rfl,by kernel_rfl⟩
theorem Calls.NR {P:Program}{g:FuncId}{args:Array Value}{w:World}{R R':Value->World->Prop}(h:Calls P g args w (pU R))(k:∀ v w,R v w->R' v w):Calls P g args w (pU R'):=
 h.mono fun e w he=>by obtain ⟨v,hv,hr⟩:=he;exact ⟨v,hv,k v w hr⟩
section
variable {w w1:World}{A G:Nat->Prop}{R:Rn}{m:BX}{ptrs:List Nat}{x:vV}{s s':Sg}{v:Int}{xs:List vV}{gs:List qx}{y:jI}{a7:Option Addr}{c7:Nat}{a10:Option Addr}{c10:Nat}{a11:Option Addr}{c11:Nat}{a12:Option Addr}{c12:Nat}
theorem Vv {L:List It}{D:List Da}(b:Bx w w1 A G (L ++ (PD R m ptrs x s 0 v)) D)(hl:EH w G xs gs):EH w1 (lH (Mar R m ptrs s.hist s.out 0 v)) (x :: xs) (s.a :: gs):=by
 refine ⟨⟨?_,fun k hF ⟨it,hi,hk⟩=>?_⟩,xQ b hl fun it hi=>List.mem_append_right _ (List.mem_append_left _ hi)⟩
 · exact b.at (L.length+4) (by rw [H9 (by omega)];simp)
 · obtain ⟨i,hi⟩:=Ik hi;have hlt:=jU hi;have h4:i < 4:=hlt;refine b.apart (i:=L.length+4) (j:=L.length+i) (by omega) (x:=uw x s.a) (y:=it) (by rw [H9 (by omega)];simp) ?_ k hF hk;rw [H9 (by omega),GI (by simp;omega)];rw [show L.length+i - L.length=i by omega];exact hi
theorem Wj {sm:List qx->Sm}{fu:Nat}(hC:CRr R sm)(hR:YH w A R m ptrs x s v xs gs (dS y a7 c7 a10 c10 a11 c11 a12 c12))(ha:Hl y){q:Pn (List Int)}(he:zq (xD fu s.a.ws) y.a []=some q)(hq:Eg q)(Q:Pn (Option Int)->Prop){q2:Pn Int}{h2:List kC}{o2:List Int}(hc:∀ l,q=.ok l->AB sm R.src (s.a :: gs) y.i l s.hist s.out=some (q2,h2,o2)/\JU q2) :Calls prog 78 #[Pt R.rb,Pt x.b,.agg (cS y a7 c7 a10 c10 a11 c11 a12 c12).toArray] w (pU fun r w'=>∃ m' how e v',r=V how/\((∃ l,q=.ok l/\Hc q2 how e v'/\Bx w w' A (lH (PD R m ptrs x s 0 v)) (PD R m' ptrs x ⟨s.a,h2,o2⟩ e v') (oV R m' h2 o2))\/(q=.uP v'/\how=2/\e=0/\Bx w w' A (lH (PD R m ptrs x s 0 v)) (PD R m' ptrs x s e v') (oV R m' s.hist s.out)))):=by
 obtain ⟨hP,hl,hB,hp,hn⟩:=hR;have b:=hP.bx;clear hP;generalize hG:lH (PD R m ptrs x s 0 v)=G at b hl ⊢;refine cf func78 rfl ?_;refine lG [(0,Pt R.rb),(1,Pt x.b),(2,.agg (cS y a7 c7 a10 c10 a11 c11 a12 c12).toArray)] ⟨rfl,rfl,rfl,trivial⟩ fun av=>?_;refine go ?_;refine su b (uK rfl) fun w2 b5 b=>?_;refine goC b ?_;refine pW (l6 Ut rfl) (adM fu (b.pr [1,5] [0,2,3,4] [1] rfl) ha.ar he hq) ?_;rintro _ w3 ⟨v',hz⟩;rcases hz with ⟨ns,A1,c1,rfl,rfl,hK⟩|⟨rfl,rfl,hK⟩
 · replace b:=b.cn [1,5] [0,2,3,4] hK;replace b:=(b.arr [2,0,3,4,5,1] rfl).dp [0,5,6,7,8,9,10];obtain ⟨hcm,hg⟩:=hc ns rfl;refine kr (xw (.tuple #[.slice A1 ns.length c1,.bool true]) rfl) ?_;refine goC b ?_;have hl1:EH w3 (lH (Mar R m ptrs s.hist s.out 0 v')) (x :: xs) (s.a :: gs):=Vv (L:=[_]) b hl;refine pW (l6 Xz rfl) (hC (b.pr [1,2,3,4] [0,5] [0,1,2,3,4,5,6] rfl) hl1 (q9 hB b.rM.size) (by rw [hp,List.map_cons,List.reverse_cons]) hn hcm hg) ?_;rintro _ w4 ⟨m',how,e,v2,rfl,hw,hK⟩;replace b:=b.cn [1,2,3,4] [0,5] hK;refine go ?_;exact kH (jC rfl (kL rfl) ⟨m',how,e,v2,rfl,.inl ⟨ns,rfl,hw,(b.arr [0,1,2,3,5] rfl).dp [0,1,2,3,4,5]⟩⟩)
 · replace b:=b.cn [1,5] [0,2,3,4] hK;refine kr (xw (.tuple #[sn,.bool false]) rfl) ?_;refine goC b ?_;exact kH (jC rfl (kL rfl) ⟨m,2,0,v',rfl,.inr ⟨rfl,rfl,rfl,(b.arr [0,3,4,5,1] rfl).dp [4,5,6,7,8,9]⟩⟩)
end
section
variable {w w1:World}{A G:Nat->Prop}{R:Rn}{m:BX}{ptrs:List Nat}{x:vV}{s s':Sg}{v:Int}{xs:List vV}{gs:List qx}{y:jI}{a7:Option Addr}{c7:Nat}{a10:Option Addr}{c10:Nat}{a11:Option Addr}{c11:Nat}{a12:Option Addr}{c12 b5:Nat}{cs:Array Value}
abbrev Lu (w w1:World)(A G:Nat->Prop)(R:Rn)(m:BX)(ptrs:List Nat)(x:vV)(s:Sg)(e v:Int)(y:jI)(a7:Option Addr)(c7:Nat)(a10:Option Addr)(c10:Nat)(a11:Option Addr)(c11:Nat)(a12:Option Addr)(c12 b5:Nat)(cs:Array Value):Prop:=
 Bx w w1 A G (.box b5 122 cs :: PD R m ptrs x s e v) (dS y a7 c7 a10 c10 a11 c11 a12 c12 ++ oV R m s.hist s.out)
theorem XR {fv:Nat}(hR:PI R)(b:Lu w w1 A G R m ptrs x s 0 v y a7 c7 a10 c10 a11 c11 a12 c12 b5 cs)(hl:EH w G xs gs)(hB:R.B<=w.heap.size)(hp:ptrs=(xs.map (·.b)).reverse ++ [x.b])(hn:ptrs.length<=20){id:Int}{p:Pn Unit}(hm:event (jD fv R.src) R.st gs s id=some (p,s')) :Calls prog 76 #[Pt R.rb,Pt x.b,V id] w1 (pU fun r w'=>∃ m' e,Lu w w' A G R m' ptrs x s' e v y a7 c7 a10 c10 a11 c11 a12 c12 b5 cs/\((p=.ok ()/\r=.bool true/\e=0)\/(p=.err e/\r=.bool false))):=
 Calls.NR (UD (b.pr [1,2,3,4,5] [0] [4,5,6,7,8,9] rfl) (xQ b hl (fun it hi=>wI _ hi)) (q9 hB b.rM.size) hp hn hR.st hR.mo hm) fun r w' ⟨m',e,hK,hr⟩=>by have hb:=b.cn [1,2,3,4,5] [0] hK;exact ⟨m',e,(hb.arr [5,0,1,2,3,4] rfl).dp [6,7,8,9,0,1,2,3,4,5],hr⟩
theorem Vz {fu:Nat}(b:Lu w w1 A G R m ptrs x s 0 v y a7 c7 a10 c10 a11 c11 a12 c12 b5 cs)(ha:Hl y){p:Pn Int}(hm:U1 (xD fu s.a.ws) y.a=some p)(hq:Eg p) :Calls prog 80 #[Pt R.rb,Pt x.b,.agg (cS y a7 c7 a10 c10 a11 c11 a12 c12).toArray] w1 (pU fun r w'=>∃ v',Lu w w' A G R m ptrs x s 0 v' y a7 c7 a10 c10 a11 c11 a12 c12 b5 cs/\((∃ n,p=.ok n/\r=.tuple #[V n,.bool true])\/(∃ z,p=.uP v'/\r=.tuple #[V z,.bool false]))):=
 Calls.NR (PW (b.pr [1,5] [0,2,3,4] [1] rfl) ha.ar hm hq) fun r w' ⟨v',hK,hr⟩=>by have hb:=b.cn [1,5] [0,2,3,4] hK;exact ⟨v',hb.arr [2,0,3,4,5,1] rfl,hr⟩
theorem abb {fu:Nat}{p:Pn (Option Int)}(b:Lu w w1 A G R m ptrs x s 0 v y a7 c7 a10 c10 a11 c11 a12 c12 b5 cs)(ha:Hl y)(hm:Kh (xD fu s.a.ws) s.a.ws y.d s (fun q=>one (xD fu s.a.ws) y.a s fun v=>some (.ok none,{ s with a:={ s.a with ws:=setW s.a.ws q v } }))=some (p,s'))(hq:JU p) :Calls prog 77 #[Pt R.rb,Pt x.b,.agg (cS y a7 c7 a10 c10 a11 c11 a12 c12).toArray] w1 (pU fun r w'=>∃ how v',r=V how/\Hw p how 0 v'/\Lu w w' A G R m ptrs x s' 0 v' y a7 c7 a10 c10 a11 c11 a12 c12 b5 cs):=
 Calls.NR (SH (b.pr [1,5] [0,2,3,4] [0,1,2,3] rfl) ha hm hq) fun r w' ⟨how,v',hr,hw,hK,h1,h2⟩=>by have hb:=b.cn [1,5] [0,2,3,4] hK;have hb:=hb.arr [2,0,3,4,5,1] rfl;refine ⟨how,v',hr,hw,?_⟩;unfold Lu;dsimp only [PD,Mar];rw [h1,h2];exact hb
theorem aaZ {sm:List qx->Sm}(hS:CBr R sm)(b:Lu w w1 A G R m ptrs x s 0 v y a7 c7 a10 c10 a11 c11 a12 c12 b5 cs)(hl:EH w G xs gs)(hB:R.B<=w.heap.size)(hp:ptrs=(xs.map (·.b)).reverse ++ [x.b])(hn:ptrs.length<=20)(j:Nat){a:Option Addr}{c:Nat}{l:List jI}{p:Pn (Option Int)}(ha:∀ z ∈ l,Hl z)(hm:EJ (sm gs) s l=some (p,s'))(hq:JU p)(hD:pick (dS y a7 c7 a10 c10 a11 c11 a12 c12 ++ oV R m s.hist s.out) [j,4,5,6,7,8,9]=[.l a c l] ++ oV R m s.hist s.out) :Calls prog 31 #[Pt R.rb,Pt x.b,.slice a l.length c] w1 (pU fun r w'=>∃ m' x' how e v',x'.b=x.b/\r=V how/\Hw p how e v'/\Lu w w' A G R m' ptrs x' s' e v' y a7 c7 a10 c10 a11 c11 a12 c12 b5 cs):=by have hr:YH w1 (Ei w A (pick _ [1,2,3,4,5] ++ pick _ [0])) R m ptrs x s v xs gs [.l a c l]:=⟨by have:=b.pr [1,2,3,4,5] [0] [j,4,5,6,7,8,9] rfl;rw [hD] at this;exact this,xQ b hl (fun it hi=>wI _ hi),q9 hB b.rM.size,hp,hn⟩;have hc:=hS hr ha hm hq;clear hr;refine Calls.NR hc fun r w' ⟨m',x',how,e,v',hx,hr,hw,hK⟩=>?_;have hb:=b.cn [1,2,3,4,5] [0] hK;exact ⟨m',x',how,e,v',hx,hr,hw,(hb.arr [5,0,1,2,3,4] rfl).dp [6,7,8,9,0,1,2,3,4,5]⟩
theorem RJ {sm:List qx->Sm}{fu:Nat}(hC:CRr R sm)(b:Lu w w1 A G R m ptrs x s 0 v y a7 c7 a10 c10 a11 c11 a12 c12 b5 cs)(hl:EH w G xs gs)(hB:R.B<=w.heap.size)(hp:ptrs=(xs.map (·.b)).reverse ++ [x.b])(hn:ptrs.length<=20)(ha:Hl y){q:Pn (List Int)}(he:zq (xD fu s.a.ws) y.a []=some q)(hq:Eg q){q2:Pn Int}{h2:List kC}{o2:List Int}(hc:∀ l,q=.ok l->AB sm R.src (s.a :: gs) y.i l s.hist s.out=some (q2,h2,o2)/\JU q2) :Calls prog 78 #[Pt R.rb,Pt x.b,.agg (cS y a7 c7 a10 c10 a11 c11 a12 c12).toArray] w1 (pU fun r w'=>∃ m' how e v',r=V how/\((∃ l,q=.ok l/\Hc q2 how e v'/\Lu w w' A G R m' ptrs x ⟨s.a,h2,o2⟩ e v' y a7 c7 a10 c10 a11 c11 a12 c12 b5 cs)\/(q=.uP v'/\how=2/\e=0/\Lu w w' A G R m' ptrs x s e v' y a7 c7 a10 c10 a11 c11 a12 c12 b5 cs))):=by
 have hr:YH w1 (Ei w A (pick _ [1,2,3,4,5] ++ pick _ [0])) R m ptrs x s v xs gs (dS y a7 c7 a10 c10 a11 c11 a12 c12):=⟨b.pr [1,2,3,4,5] [0] [0,1,2,3,4,5,6,7,8,9] rfl,xQ b hl (fun it hi=>wI _ hi),q9 hB b.rM.size,hp,hn⟩;have hc2:=Wj hC hr ha he hq (fun _=>True) hc;clear hr;refine Calls.NR hc2 fun r w' ⟨m',how,e,v',hr,hz⟩=>⟨m',how,e,v',hr,?_⟩;rcases hz with ⟨l,h1,h3,hK⟩|⟨h1,h3,h4,hK⟩
 · have hb:=b.cn [1,2,3,4,5] [0] hK;exact .inl ⟨l,h1,h3,(hb.arr [5,0,1,2,3,4] rfl).dp [6,7,8,9,0,1,2,3,4,5]⟩
 · have hb:=b.cn [1,2,3,4,5] [0] hK;exact .inr ⟨h1,h3,h4,(hb.arr [5,0,1,2,3,4] rfl).dp [6,7,8,9,0,1,2,3,4,5]⟩
end
end Go.Proofs.YtfglbdkfnphjgaaGreat
