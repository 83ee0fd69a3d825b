/- Expressions: value, word, values. -/
import Derived.Test.YtfglbdkfnphjgaaGreatZ19
import Derived.Test.YtfglbdkfnphjgaaGreatZ18
import Derived.Test.YtfglbdkfnphjgaaGreatZ16
import Derived.RangeFuncLeaves
import Derived.RangeFuncRecord
import Derived.RangeFuncCalls
import Derived.TacticsIn
set_option linter.unusedVariables false
set_option maxRecDepth 4000
set_option maxHeartbeats 12800000
set_option linter.unusedSimpArgs false
namespace Go.Proofs.YtfglbdkfnphjgaaGreat
open Go.RowKit Go.Fw Go.Proofs.Tryz
abbrev cE (e:jA)(a:Option Addr)(c:Nat):List Value:=[V e.e,V e.d,V e.g,T e.b,T e.c,.slice a e.a.length c]
section
variable {N:Fz}{ops:Array Oper}{K:KK}{rest:List Oper}{f:Fr}{w w0:World}{d1 d2:Nat}{ty ty2:TypeId}{pos pos2:String}{af af2:Array Edge}{y z:Operand}{Z G:Nat->Prop}{L:List It}{D:List Da}
theorem Ti (e:Bx w0 w Z G L D)(j:Nat){a:Option Addr}{c:Nat}{l:List jA}{k:Nat}{i:Int}{x:jA}(hj:D[j]?=some (.l a c l))(hk:l[k]?=some x)(h1:ev f y=.slice a l.length c)(h2:ev f z=V i)(hi:i=(k:Int))(h:∀ a2 c2,Bx w0 w Z G L (.l a2 c2 x.a :: D)->pV prog N ops K rest (upd (upd f d1 (.pointer (some ⟨nE a,ow a+k * 6,none⟩))) d2 (.agg (cE x a2 c2).toArray)) w) :pV prog N ops K (⟨some d1,.indexAddr 120 y z,ty,pos,af,none⟩ :: ⟨some d2,.load 135 (.tmp d1),ty2,pos2,af2,none⟩ :: rest) f w:=by
 obtain ⟨cs,hr,e2⟩:=e.nm j hj hk;obtain ⟨a2,c2,rfl,hd⟩:=jA.out hr;have e3:=e2.kF (d:=.l a2 c2 x.a) hd;refine kr (kY underlying120 jW h1 h2 hi (e.dl j hj) hk) ?_;refine kr (nA (cE x a2 c2) underlying135 rfl jW rfl (by show upd f d1 _ d1=_;unfold upd;rw [Nat.beq_refl];rfl) (e3.dc 1 rfl)) ?_;exact h a2 c2 (e3.NK fun d hd=>by
  rcases qK.1 hd with rfl | hd
  · exact Bn ..
  · exact wI _ (wI _ hd))
theorem CQ {t:TypeId}{d:Option Nat}{a:Option Addr}{n c:Nat}{i:Int}{t2:TypeId}(ht:prog.underlying t=some (.slice t2))(h1:ev f y=.slice a n c)(h2:ev f z=V i)(hi:¬ (0<=i/\i < n))(h:∀ u w',w'=w\/w'=w.drew->K.p f [⟨.iface prog.rt.boundsError u,false,false⟩] w') :pV prog N ops K (⟨d,.indexAddr t y z,ty,pos,af,none⟩ :: rest) f w:=by obtain ⟨w',v,hr,hw⟩:=Rv (P:=prog) (w:=w) (d:=d) (ty:=ty) (pos:=pos) (af:=af) (g:=none) ht h1 h2 hi;exact Xo hr (h v w' hw)
end
theorem X7:jH prog 72:=⟨_,func72,by kernel_rfl,by kernel_rfl⟩
theorem Hu:jH prog 73:=⟨_,func73,by kernel_rfl,by kernel_rfl⟩
theorem abu:jH prog 96:=⟨_,func96,by kernel_rfl,by kernel_rfl⟩
def PvE {α:Type}(p:Pn α)(w:World)(ch:List PanicEntry)(w':World):Prop:=Pb p ch/\Ext w w'
def CEv (evf:List (List Int)->jA->Option (Pn Int)):Prop:=∀ {w:World}{A:Nat->Prop}{rb:Nat}{x:vV}{g:qx}{e:jA}{a:Option Addr}{c:Nat}{p:Pn Int},Pre w A [] [.l a c e.a]->(It.act x g).p w->evf g.ws e=some p-> Calls prog 73 #[Pt rb,Pt x.b,.agg (cE e a c).toArray] w (RP (fun v w'=>∃ n,p=.ok n/\v=V n/\Ext w w') (PvE p w))
def CWd (evf:List (List Int)->jA->Option (Pn Int)):Prop:=∀ {w:World}{A:Nat->Prop}{rb:Nat}{x:vV}{g:qx}{e:jA}{a:Option Addr}{c:Nat}{p:Pn (Nat × Nat)},Pre w A [] [.l a c e.a]->(It.act x g).p w->O4 (evf g.ws) g.ws e=some p-> Calls prog 72 #[Pt rb,Pt x.b,.agg (cE e a c).toArray] w (RP (fun v w'=>∃ k j r l,p=.ok (k,j)/\x.R[k]?=some r/\g.ws[k]?=some l/\j < l.length/\v=.pointer (some ⟨r,j,none⟩)/\Ext w w') (PvE p w))
theorem yS {T:TypeId}{x:vV}{g:qx}{w w':World}(h:(It.vY T x g).p w)(e:Ext w w'):(It.vY T x g).p w':=(It.vY T x g).st w w' h (fun b hb=>e.block b ((It.vY T x g).bd w h b hb)) e.size
theorem Pb.up {α β:Type}{p:Pn α}{ch:List PanicEntry}(h:Pb p ch):Pb (p.up:Pn β) ch:=by
 cases p with
 | ok a=>exact h.elim
 | _=>exact h
theorem Dz {w w1 w':World}(h:Ext w w1)(k:w'=w1\/w'=w1.drew):Ext w w':=by
 rcases k with rfl | rfl
 · exact h
 · exact h.drew
theorem Un {ef:List (List Int)->jA->Option (Pn Int)}(hE:CEv ef)(hW:CWd ef){fu:Nat}(hf:∀ ws e,ef ws e=xD fu ws e):CEv (xD (fu+1)):=by
 intro w A rb x g e a c p hP ha hm;have b:=hP.bx;clear hP;refine xZ func73 rfl ?_;refine lG [(0,Pt rb),(1,Pt x.b),(2,.agg (cE e a c).toArray)] ⟨rfl,rfl,rfl,trivial⟩ fun av=>?_;refine go ?_;refine su b (uK rfl) fun w1 b1 b=>?_;refine goC b ?_;rw [xD] at hm;refine ou rfl (fun h=>?_) (fun h=>?_)
 · rw [kg h] at hm;refine goC b ?_;exact kH (jC rfl (kL rfl) ⟨_,(sm hm).symm,rfl,(b.tl).ex⟩)
 rw [jR h] at hm;refine goC b ?_;refine qR (fun f w'=>w'=w1/\Has f [(0,Pt rb),(1,Pt x.b),(5,Pt b1),(10,V e.e),(15,.bool (decide (e.e=1\/e.e=2\/e.e=3)))]) (fun J hJ=>?_) ?_
 · refine ou rfl (fun h=>?_) (fun h=>?_)
   · refine go ?_;exact hJ _ _ ⟨rfl,rfl,rfl,rfl,rfl,congrArg Value.bool (decide_eq_decide.2 ⟨.inl,fun _=>h⟩),trivial⟩
   refine go ?_;refine ou rfl (fun h2=>?_) (fun h2=>?_)
   · refine go ?_;exact hJ _ _ ⟨rfl,rfl,rfl,rfl,rfl,congrArg Value.bool (decide_eq_decide.2 ⟨fun z=>.inr (.inl z),fun _=>h2⟩),trivial⟩
   refine go ?_;exact hJ _ _ ⟨rfl,rfl,rfl,rfl,rfl,congrArg Value.bool (decide_eq_decide.2 ⟨fun z=>.inr (.inr z),fun z=>(z.resolve_left h).resolve_left h2⟩),trivial⟩
 rintro f w' ⟨rfl,hf'⟩;obtain ⟨av,rfl⟩:=mJ _ _ hf';clear hf';have hx:Ext w w':=(b.tl).ex;refine go ?_;refine ou rfl (fun h=>?_) (fun h=>?_)
 · rw [kg h] at hm;obtain ⟨q,h1,hm⟩:=bs hm;refine goC b ?_;refine kr (l7 (cE e a c) mq jW rfl (b.bk 0 rfl)) ?_;refine Nk (l6 X7 rfl) (hW (b.pr [] [0] [0] rfl) (yS ha hx) (by rw [<-h1];congr 1;exact funext fun e=>hf ..)) (fun ch w2 hp=>?_) ?_
   · obtain ⟨hp,hx2⟩:=hp;cases q with
     | ok r=>exact hp.elim
     | _=>obtain rfl:=sm hm;exact ⟨hp,hx.trans hx2⟩
   rintro _ w2 ⟨k,j,r,l,rfl,hr,hl,hj,rfl,hx2⟩;obtain ⟨r',hr',hb,_⟩:=It.tO (yS (yS ha hx) hx2) hl;rw [hr] at hr';obtain rfl:=vK hr';refine go ?_;refine aL3 rfl hb (v:=V (Vb g.ws (k,j))) ?_ ?_
   · show (l.map V).toArray[j]?=_;simp only [List.getElem?_toArray,BR,Vb];rw [List.getElem?_eq_getElem hj];simp [Gb,hl,hj]
   refine go ?_;exact kH (jC rfl (kL rfl) ⟨_,(sm hm).symm,rfl,hx.trans hx2⟩)
 rw [jR h] at hm;refine goC b ?_;refine ou rfl (fun h=>?_) (fun h=>?_)
 · rw [kg h] at hm;refine goC b ?_;cases hA:e.a with
   | nil=>
     rw [hA] at hm;exact CQ underlying120 rfl rfl (by rw [hA];simp) fun u w2 hw=>by obtain rfl:=sm hm;exact ⟨⟨u,zo _⟩,Dz hx hw⟩
   | cons y l=>
     rw [hA] at hm;obtain ⟨q,h1,hm⟩:=bs hm;refine Ti b 0 rfl (show e.a[0]?=some y by rw [hA];rfl) rfl rfl rfl fun a2 c2 b=>?_;refine goC b ?_;refine Nk (l6 Hu rfl) (hE (b.pr [] [0] [0] rfl) (yS ha hx) (by rw [hf];exact h1)) (fun ch w2 hp=>?_) ?_
     · obtain ⟨hp,hx2⟩:=hp;cases q with
       | ok r=>exact hp.elim
       | _=>obtain rfl:=sm hm;exact ⟨hp,hx.trans hx2⟩
     rintro _ w2 ⟨n,rfl,rfl,hx2⟩;refine go ?_;exact kH (jC rfl (kL rfl) ⟨_,(sm hm).symm,rfl,hx.trans hx2⟩)
 rw [jR h] at hm;refine goC b ?_;refine ou rfl (fun h=>?_) (fun h=>?_)
 · rw [kg h] at hm;refine goC b ?_;cases hA:e.a with
   | nil=>
     rw [hA] at hm;exact CQ underlying120 rfl rfl (by rw [hA];simp) fun u w2 hw=>by obtain rfl:=sm hm;exact ⟨⟨u,zo _⟩,Dz hx hw⟩
   | cons y l=>
     rw [hA] at hm;obtain ⟨q,h1,hm⟩:=bs hm;refine Ti b 0 rfl (show e.a[0]?=some y by rw [hA];rfl) rfl rfl rfl fun a2 c2 b=>?_;refine goC b ?_;refine Nk (l6 Hu rfl) (hE (b.pr [] [0] [0] rfl) (yS ha hx) (by rw [hf];exact h1)) (fun ch w2 hp=>?_) ?_
     · obtain ⟨hp,hx2⟩:=hp;cases q with
       | ok r=>exact hp.elim
       | _=>obtain rfl:=sm hm;exact ⟨hp,hx.trans hx2⟩
     rintro _ w2 ⟨n,rfl,rfl,hx2⟩;refine go ?_;refine pW (l6 Ov rfl) DV ?_;rintro _ w3 ⟨rfl,rfl⟩;refine go ?_;exact kH (jC rfl (kL rfl) ⟨_,(sm hm).symm,rfl,hx.trans hx2⟩)
 rw [jR h] at hm;refine goC b ?_;cases hA:e.a with
 | nil=>
   rw [hA] at hm;exact CQ underlying120 rfl rfl (by rw [hA];simp) fun u w2 hw=>by obtain rfl:=sm hm;exact ⟨⟨u,zo _⟩,Dz hx hw⟩
 | cons y l=>
   rw [hA] at hm;obtain ⟨q,h1,hm⟩:=bs hm;refine Ti b 0 rfl (show e.a[0]?=some y by rw [hA];rfl) rfl rfl rfl fun a2 c2 b=>?_;refine goC b ?_;refine Nk (l6 Hu rfl) (hE (b.pr [] [0] [0] rfl) (yS ha hx) (by rw [hf];exact h1)) (fun ch w2 hp=>?_) ?_
   · obtain ⟨hp,hx2⟩:=hp;cases q with
     | ok r=>exact hp.elim
     | _=>obtain rfl:=sm hm;exact ⟨hp,hx.trans hx2⟩
   rintro _ w2 ⟨n,rfl,rfl,hx2⟩;replace b:=b.ext hx2;replace hx:=hx.trans hx2;refine goC b ?_;cases l with
   | nil=>exact CQ underlying120 rfl rfl (by rw [hA];simp) fun u w2 hw=>by obtain rfl:=sm hm;exact ⟨⟨u,zo _⟩,Dz hx hw⟩
   | cons z l=>
     obtain ⟨q,h1,hm⟩:=bs hm;refine Ti b 1 rfl (show e.a[1]?=some z by rw [hA];rfl) rfl rfl rfl fun a3 c3 b=>?_;refine goC b ?_;refine Nk (l6 Hu rfl) (hE (b.pr [] [0] [0] rfl) (yS ha hx) (by rw [hf];exact h1)) (fun ch w2 hp=>?_) ?_
     · obtain ⟨hp,hx2⟩:=hp;cases q with
       | ok r=>exact hp.elim
       | _=>obtain rfl:=sm hm;exact ⟨hp,hx.trans hx2⟩
     rintro _ w3 ⟨m,rfl,rfl,hx3⟩;replace b:=b.ext hx3;replace hx:=hx.trans hx3;obtain rfl:=sm hm;refine goC b ?_;refine Nk (l6 abu rfl) Sd (fun ch w2 hp=>?_) ?_
     · obtain ⟨hp,rfl⟩:=hp;exact ⟨hp,hx⟩
     rintro _ w4 ⟨r,hr,rfl,rfl⟩;refine go ?_;exact kH (jC rfl (kL rfl) ⟨_,hr,rfl,hx⟩)
theorem aaV {N:Fz}{ops:Array Oper}{K:KK}{rest:List Oper}{f:Fr}{w:World}{d1 d2:Nat}{ty ty2:TypeId}{pos pos2:String}{af af2:Array Edge}{y z:Operand}{T:TypeId}{x:vV}{g:qx}{k:Nat}{l:List Int}{i:Int}(ha:(It.vY T x g).p w)(hk:g.ws[k]?=some l)(h1:ev f y=.slice x.A g.ws.length x.c)(h2:ev f z=V i)(hi:i=(k:Int))(h:∀ r,x.R[k]?=some r->nS w r 3 (l.map V).toArray->pV prog N ops K rest (upd (upd f d1 (.pointer (some ⟨nE x.A,ow x.A+k * 1,none⟩))) d2 (.slice (some ⟨r,0,none⟩) l.length l.length)) w) :pV prog N ops K (⟨some d1,.indexAddr 93 y z,ty,pos,af,none⟩ :: ⟨some d2,.load 22 (.tmp d1),ty2,pos2,af2,none⟩ :: rest) f w:=by obtain ⟨r,h3,h4,h5,h6⟩:=It.tO ha hk;rw [h5] at h1;refine kr (xIdx k underlying93 xg h1 h2 hi (jU hk)) ?_;refine kr (jV (a:=⟨nE x.A,ow x.A+k * 1,none⟩) underlying22 rfl (by show upd f d1 _ d1=_;unfold upd;rw [Nat.beq_refl];rfl) (by rw [Nat.mul_one];exact h6)) ?_;exact h r h3 h4
section
variable {P:Program}{N:Fz}{ops:Array Oper}{f:Fr}{w w0:World}{Z G:Nat->Prop}{L:List It}{D:List Da}
theorem Es {Q:Post}{i:Nat}(h:Bx w0 w Z G L D)(E:World->Prop)(hE:E w.drew)(hm:P.follows .mixedOrders=true)(k:Bx w0 w.drew Z G L D/\E w.drew->tK P N ops (fun u=>Bx w0 u Z G L D/\E u) (fun _=>True) [] ⟨Q.n,Q.p⟩ ops.size (Array.replicate ops.size false) f w.drew):WP P N (.region i ops true) Q f w:=
 ql _ _ [] hm (k ⟨h.drew,hE⟩)
theorem AV {ρ:Operand->Value}{d:Option Nat}{ty:TypeId}{pos:String}{af:Array Edge}{g:Option (Nat × Bool)}{t e:TypeId}{x y:Operand}{A:Option Addr}{n c:Nat}{i:Int}{z:Value}{s by_:Nat}(j:Nat)(h5:A=some ⟨nE A,ow A,none⟩)(ht:P.underlying t=some (.slice e))(he:TI P e z s by_)(hx:ρ x=.slice A n c)(hy:ρ y=V i)(hi:i=(j:Int))(hj:j < n):Yl P ρ (.indexAddr t x y) d ty pos af g w (.pointer (some ⟨nE A,ow A+j * s,none⟩)):=by rw [h5] at hx;exact xIdx j ht he hx hy hi hj
end
theorem OT {N:Fz}{ops:Array Oper}{S1 S:World->Prop}{T':List Nat}{K:KK}{f:Fr}{w:World}{n':Nat}{L:Array Bool}{i:Nat}{d:Option Nat}{t t2:TypeId}{y z:Operand}{ty:TypeId}{pos:String}{af:Array Edge}{a:Option Addr}{n c:Nat}{iv:Int}(hi:ops[i]?=some ⟨d,.indexAddr t y z,ty,pos,af,none⟩)(ht:prog.underlying t=some (.slice t2))(h1:ev f y=.slice a n c)(h2:ev f z=V iv)(hn:¬ (0<=iv/\iv < n))(h:∀ u w',w'=w\/w'=w.drew->∀ f,K.p f [⟨.iface prog.rt.boundsError u,false,false⟩] w'):CS prog N ops S1 S T' K n' L f w i:=by obtain ⟨w',v,hr,hw⟩:=Rv (P:=prog) (w:=w) (d:=d) (ty:=ty) (pos:=pos) (af:=af) (g:=none) ht h1 h2 hn;exact Yz hi rfl hr (h v w' hw)
theorem uW {T:TypeId}{x:vV}{g:qx}{w:World}{k r:Nat}{l:List Int}(h:(It.vY T x g).p w)(hr:x.R[k]?=some r)(hk:g.ws[k]?=some l):w.cell? ⟨nE x.A,ow x.A+k * 1,none⟩=some (.slice (some ⟨r,0,none⟩) l.length l.length):=by obtain ⟨r',h1,_,_,h4⟩:=It.tO h hk;rw [hr] at h1;rw [Nat.mul_one,vK h1];exact h4
theorem RA {α:Type}{l:List α}{i:Int}{x:α}(h:ix? l i=some x):∃ k:Nat,i=(k:Int)/\l[k]?=some x:=by
 unfold ix? at h;split at h
 · cases h
 · exact ⟨i.toNat,by omega,h⟩
theorem Cz {α:Type}{l:List α}{i:Int}(h:ix? l i=none):¬ (0<=i/\i < l.length):=by
 unfold ix? at h;split at h
 · omega
 · have:=List.getElem?_eq_none_iff.1 h;omega
theorem Ri {ef:List (List Int)->jA->Option (Pn Int)}(hE:CEv ef):CWd ef:=by
 intro w A rb x g e a c p hP ha hm;have b:=hP.bx;clear hP;refine xZ func72 rfl ?_;refine lG [(0,Pt rb),(1,Pt x.b),(2,.agg (cE e a c).toArray)] ⟨rfl,rfl,rfl,trivial⟩ fun av=>?_;refine go ?_;refine su b (uK rfl) fun w1 b1 b=>?_;refine kr (P5 rfl) ?_;refine goC b ?_;have hx:Ext w w1:=(b.tl).ex;refine Es b (It.act x g).p (yS ha hx.drew) (by kernel_rfl) fun m=>?_;replace b:=m.1;replace hx:=hx.drew;replace ha:=m.2;refine pF 0 r (oF r) m (pF 1 r (xn r) m (pF 2 r (IX r) m (uF 3 r (fun h=>Wn r (It.o9 h.2) r) m (pF 4 r (Tx r) m (uF 5 r (fun h=>l3 r (h.1.bk 0 r) r) m ?_)))));unfold O4 at hm;cases hl:ix? g.ws e.g with
 | none=>
   rw [hl] at hm;obtain rfl:=sm hm;exact hO 6 (OT r underlying93 r r (Cz hl) fun v w' hw _=>⟨⟨v,zo _⟩,Dz hx hw⟩)
 | some l=>
 rw [hl] at hm;obtain ⟨k,hk,hl⟩:=RA hl;obtain ⟨r0,hr,hB,h5,_⟩:=It.tO ha hl;refine pF 6 r (AV k h5 underlying93 xg r r hk (jU hl)) m (uF 7 r (fun h=>jV (a:=⟨nE x.A,ow x.A+k * 1,none⟩) underlying22 r r (uW h.2 hr hl)) m (pF 8 r (mh r) m (hD ?_)));refine goC b ?_;dsimp only at hm;refine ou rfl (fun h=>?_) (fun h=>?_)
 · rw [kg h] at hm;obtain rfl:=sm hm;refine goC b ?_;by_cases hn:0<=e.d/\e.d < l.length
   · rw [kg hn];obtain ⟨j,hj⟩:∃ j:Nat,e.d=(j:Int):=⟨e.d.toNat,by omega⟩;refine kr (xIdx j underlying22 ny rfl rfl hj (by omega)) ?_;refine go ?_;exact kH (jC rfl (kL (v:=.pointer (some ⟨r0,0+j * 1,none⟩)) rfl) ⟨k,j,r0,l,by rw [hk,hj];rfl,hr,hl,by omega,by rw [Bh,Nat.mul_one],hx⟩)
   · rw [jR hn];exact CQ underlying22 rfl rfl hn fun u w2 hw=>⟨⟨u,zo _⟩,Dz hx hw⟩
 rw [jR h] at hm;refine goC b ?_;refine ou rfl (fun h=>?_) (fun h=>?_)
 · rw [kg h] at hm;refine goC b ?_;cases hA:e.a with
   | nil=>
     rw [hA] at hm;exact CQ underlying120 rfl rfl (by rw [hA];simp) fun u w2 hw=>by obtain rfl:=sm hm;exact ⟨⟨u,zo _⟩,Dz hx hw⟩
   | cons y l2=>
     rw [hA] at hm;obtain ⟨q,h1,hm⟩:=bs hm;refine Ti b 0 rfl (show e.a[0]?=some y by rw [hA];rfl) rfl rfl rfl fun a2 c2 b=>?_;refine goC b ?_;refine Nk (l6 Hu rfl) (hE (b.pr [] [0] [0] rfl) ha h1) (fun ch w2 hp=>?_) ?_
     · obtain ⟨hp,hx2⟩:=hp;cases q with
       | ok r=>exact hp.elim
       | _=>obtain rfl:=sm hm;exact ⟨hp,hx.trans hx2⟩
     rintro _ w2 ⟨n,rfl,rfl,hx2⟩;replace hx:=hx.trans hx2;replace b:=b.ext hx2;obtain rfl:=sm hm;refine go ?_;by_cases hn:n < 0
     · rw [qF hn];refine go ?_;refine kr (MS WA rfl) ?_;exact Cq rfl ⟨by rw [kg (.inl hn)];exact zo _,hx⟩
     rw [oz hn];refine goC b ?_;refine ou rfl (fun h=>?_) (fun h=>?_)
     · refine go ?_;refine kr (MS WA rfl) ?_;exact Cq rfl ⟨by rw [kg (.inr h)];exact zo _,hx⟩
     obtain ⟨j,rfl⟩:∃ j:Nat,n=(j:Int):=⟨n.toNat,by omega⟩;refine go ?_;refine kr (xIdx j underlying22 ny rfl rfl rfl (by omega)) ?_;refine go ?_;exact kH (jC rfl (kL (v:=.pointer (some ⟨r0,0+j * 1,none⟩)) rfl) ⟨k,j,r0,l,by rw [jR (by omega),hk];rfl,hr,hl,by omega,by rw [Bh,Nat.mul_one],hx⟩)
 rw [jR h] at hm;obtain rfl:=sm hm;refine goC b ?_;cases l with
 | nil=>exact CQ underlying22 rfl rfl (by simp) fun u w2 hw=>⟨⟨u,zo _⟩,Dz hx hw⟩
 | cons y l=>
   refine kr (xIdx 0 underlying22 ny rfl rfl rfl (by simp)) ?_;refine go ?_;exact kH (jC rfl (kL (v:=.pointer (some ⟨r0,0+0 * 1,none⟩)) rfl) ⟨k,0,r0,_,by rw [jR (by simp),hk];rfl,hr,hl,by simp,by rw [Bh,Nat.mul_one],hx⟩)
theorem Px {t:Nat}(h:t < 9223372036854775807):wr ((t:Int)+1)=((t+1:Nat):Int):=by unfold wr;rw [Pj (by omega) (by omega)];omega
def CVs (evf:List (List Int)->jA->Option (Pn Int)):Prop:=∀ {w:World}{A:Nat->Prop}{rb:Nat}{x:vV}{g:qx}{es:List jA}{a:Option Addr}{c:Nat}{p:Pn (List Int)},Pre w A [] [.l a c es]->(It.act x g).p w->zq (evf g.ws) es []=some p-> Calls prog 74 #[Pt rb,Pt x.b,.slice a es.length c] w (RP (fun v w'=>∃ ns A1 c1,p=.ok ns/\v=.slice A1 ns.length c1/\Bx w w' A (lH []) [] [.l A1 c1 ns]) (PvE p w))
theorem Sz {ef:List (List Int)->jA->Option (Pn Int)}(hE:CEv ef):CVs ef:=by
 intro w A rb x g es a c p hP ha hm;have b:=hP.bx;clear hP;refine xZ func74 rfl ?_;refine lG [(0,Pt rb),(1,Pt x.b),(2,.slice a es.length c)] ⟨rfl,rfl,rfl,trivial⟩ fun av=>?_;have hbd:=(b.dl 0 rfl).bd;replace b:=b.Cy Int 3;refine goC b ?_
 refine kK (fun aw f w'=>∃ (t:Nat)(acc:List Int)(a1:Option Addr)(c1:Nat)(cs:List (List Value)),aw=es.length - t∧t≤es.length∧
     Has f [(0,Pt rb),(1,Pt x.b),(7,.slice a1 acc.length c1),(10,.slice a es.length c),(11,V (es.length:Int)),(12,V (t:Int))]/\
     Bx w w' A (lH []) [.own w.heap.size a1 c1 3 (Rp.sz Int) cs] [.els cs acc,.l a c es]/\Ext w w'/\zq (ef g.ws) (es.drop t) acc=some p)
   es.length ⟨0,[],none,0,[],rfl,uy _,⟨rfl,rfl,rfl,rfl,rfl,rfl,trivial⟩,b,Ext.refl w,hm⟩ ?_
 clear b hm;rintro aw f w1 ⟨t,acc,a1,c1,cs,rfl,ht,hf,b,hx,hm⟩ J hJ;obtain ⟨av,rfl⟩:=mJ _ _ hf;clear hf;refine goC b ?_;refine ou rfl (fun h=>?_) (fun h=>?_)
 · obtain ⟨y,hy⟩:=lZ (l:=es) (k:=t) (by omega);rw [mD hy,zq] at hm;obtain ⟨q,h1,hm⟩:=bs hm;refine goC b ?_;refine Ti b 1 rfl hy rfl rfl rfl fun a2 c2 b=>?_;refine su b (jT jW) fun w2 b9 b=>?_;refine lD (oM b 0 (cE y a2 c2) rfl jW rfl rfl) fun w3 b=>?_;refine goC b ?_;refine kr (l7 (cE y a2 c2) mq jW rfl (b.bk 0 rfl)) ?_;have hx3:Ext w w3:=b.ex;refine Nk (l6 Hu rfl) (hE (b.pr [] [0,1] [0] rfl) (yS ha hx3) h1) (fun ch w2 hp=>?_) ?_
   · obtain ⟨hp,hx2⟩:=hp;cases q with
     | ok r=>exact hp.elim
     | _=>obtain rfl:=sm hm;exact ⟨hp,hx3.trans hx2⟩
   rintro _ w4 ⟨n,rfl,rfl,hx2⟩;replace b:=b.ext hx2;replace hx3:=hx3.trans hx2;obtain ⟨acc2,h2,hm⟩:=bs hm;refine nW (jO b [[V n]] ([n]:List Int) (yR rfl) rfl rfl (by decide) ⟨rfl,trivial⟩) ?_;rintro _ w5 ⟨b5,rfl,b⟩;refine nW (kR b 2 2 rfl rfl ru ny rfl (by decide) (by decide) (oH _) rfl rfl (b.AR 0 0 rfl rfl) h2) ?_;rintro _ w6 ⟨a4,c4,cs4,rfl,b⟩;refine goC b ?_;refine hJ (es.length - (t+1)) _ _ (by omega) ⟨t+1,acc2,a4,c4,cs4,rfl,by omega,⟨rfl,rfl,rfl,rfl,rfl,congrArg V (Px (by omega)),trivial⟩,b.ad [2] [2,3],b.ex,hm⟩
 · have:t=es.length:=by omega
   subst this;rw [lW,zq] at hm;obtain rfl:=sm hm;refine goC b ?_;refine uS ?_;refine goC b ?_;refine kH (jC rfl (kL rfl) ⟨acc,a1,c1,rfl,rfl,?_⟩);exact (b.Ob 0 0 rfl rfl).ad [] [0]
theorem KV:∀ fu,CEv (xD fu)
 | 0=>by intro _ _ h;cases h
 | fu+1=>Un (KV fu) (Ri (KV fu)) fun _ _=>rfl
theorem abv (fu:Nat):CWd (xD fu):=Ri (KV fu)
theorem aa7 (fu:Nat):CVs (xD fu):=Sz (KV fu)
theorem X9:jH prog 74:=⟨_,func74,by kernel_rfl,by kernel_rfl⟩
structure Vf where
 a1:Option Addr
 c1:Nat
 a2:Option Addr
 c2:Nat
 a3:Option Addr
 c3:Nat
 a4:Option Addr
 c4:Nat
abbrev Kc (s:Vf)(x:jL):List Value:=[.slice s.a1 x.a.a.length s.c1,.slice s.a2 x.a.b.length s.c2,.slice s.a3 x.c.length s.c3,.slice s.a4 x.b.length s.c4]
abbrev aaN (s:Vf)(x:jL):List Da:=[.l s.a1 s.c1 x.a.a,.l s.a2 s.c2 x.a.b,.l s.a3 s.c3 x.c,.l s.a4 s.c4 x.b]
section
variable {ρ:Operand->Value}{w:World}{d:Option Nat}{ty:TypeId}{pos:String}{af:Array Edge}{g:Option (Nat × Bool)}{x y z:Operand}{n m:Int}{A B:Option Addr}{k c k2 c2:Nat}
theorem ND (h:ρ x=Vi n)(h2:ρ y=Vi m):Yl prog ρ (.build 62 #[(0,x),(1,y)]) d ty pos af g w (.agg #[Vi n,Vi m,sn]):=by
 have e:(Instr.build 62 #[(0,Vi n),(1,Vi m)]).run prog w=.ok (.agg #[Vi n,Vi m,sn]) w:=by kernel_rfl
 simp [Yl,execOp,h,h2,e]
theorem QB (h:ρ x=Vi n)(h2:ρ y=.slice A k c)(h3:ρ z=.slice B k2 c2):Yl prog ρ (.build 65 #[(0,x),(1,y),(2,z)]) d ty pos af g w (.agg #[Vi n,.slice A k c,.slice B k2 c2]):=by
 have e:(Instr.build 65 #[(0,Vi n),(1,.slice A k c),(2,.slice B k2 c2)]).run prog w=.ok (.agg #[Vi n,.slice A k c,.slice B k2 c2]) w:=by kernel_rfl
 simp [Yl,execOp,h,h2,h3,e]
end
theorem aMk (z:Value){P:Program}{w0 w:World}{Z G:Nat->Prop}{L:List It}{D:List Da}(hL:Bx w0 w Z G L D){ρ:Operand->Value}{d:Option Nat}{ty:TypeId}{pos:String}{af:Array Edge}{g:Option (Nat × Bool)}{t e:TypeId}{x y:Operand}{by_:Nat}{k:Int}(n:Nat)(ht:P.underlying t=some (.slice e))(hi:TI P e z 1 by_)(hz:z.cells=#[z])(hx:ρ x=V k)(hy:ρ y=V k)(hk:k=(n:Int))(hb:n * by_<=140737488355328)(hm:n<=9223372036854775807):To P ρ ⟨d,.makeSlice t x y,ty,pos,af,g⟩ w fun v w'=>∃ b,w0.heap.size<=b/\v=.slice (some ⟨b,0,none⟩) n n/\Bx w0 w' Z G (.box b e (Array.replicate n z) :: L) D:=by
 subst hk;obtain ⟨i,hi1,hi2,hi3,hi4⟩:=hi;subst hi4;have hr:=run_make (P:=P) w t e i z ht hi1 hi2 .i64 .i64 n n (by omega) (wT _) (by
   have:((i.bytes * n:Nat):Int)<=281474976710656:=by rw [Nat.mul_comm];omega
   rwa [Int.natCast_mul] at this) (by omega)
 simp only [AY] at hr;have hcs:madeCells z.cells (n * i.size)=Array.replicate n z:=by rw [hi3,Nat.mul_one,hz];apply Array.ext <;> simp [madeCells,Nat.mod_one]
 refine ⟨.slice (some ⟨w.heap.size,0,none⟩) n n,w.alloc (.cells (madeCells z.cells (n * i.size)) e),?_,w.heap.size,hL.rM.size,rfl,?_⟩
 · simp only [execOp,hx,hy,Sem.run_bind,hr];rfl
 · rw [hcs];exact hL.new (oH _) (nS.new w e _) ((Ext.refl w).alloc _)
theorem OU {ρ:Operand->Value}{w:World}{d:Option Nat}{ty:TypeId}{pos:String}{af:Array Edge}{g:Option (Nat × Bool)}{n:Int}{A B:Option Addr}{k c k2 c2:Nat}{x:Operand}(h:ρ x=.agg #[Vi n,.slice A k c,.slice B k2 c2]) :(execOp ρ ⟨d,.buildSlice 60 1 #[(0,x)],ty,pos,af,g⟩).run prog w=.ok (.value (.slice (some ⟨w.heap.size,0,none⟩) 1 1)) (w.alloc (.cells #[Vi n,.slice A k c,.slice B k2 c2] 65)):=by
 have e:(Instr.buildSlice 60 1 #[(0,.agg #[Vi n,.slice A k c,.slice B k2 c2])]).run prog w=.ok (.slice (some ⟨w.heap.size,0,none⟩) 1 1) (w.alloc (.cells #[Vi n,.slice A k c,.slice B k2 c2] 65)):=by kernel_rfl
 simp [execOp,h,e]
def VK (i n:Nat):List Value:=List.replicate i (.bool true) ++ List.replicate (n - i) (.bool false)
theorem adK (n:Nat):Array.replicate n (Value.bool false)=(VK 0 n).toArray:=by simp [VK]
theorem ac6 (n:Nat):VK n n=List.replicate n (.bool true):=by simp [VK]
theorem ad3 {i n:Nat}(h:i < n):((VK i n).toArray.toList.take (0+i * 1) ++ [Value.bool true] ++ (VK i n).toArray.toList.drop (0+i * 1+[Value.bool true].length)).toArray=(VK (i+1) n).toArray:=by
 congr 1
 have e:n - i=(n - (i+1))+1:=by omega
 rw [Bh,Nat.mul_one,Gx];simp only [VK];rw [e,List.replicate_succ,List.take_left' (by simp),List.replicate_succ' (n:=i)];simp [List.drop_append]
theorem nS.ex {w w':World}{b:Nat}{t:TypeId}{cs:Array Value}(h:nS w b t cs)(e:Ext w w'):nS w' b t cs:=nS.ext h e
theorem NA {w:World}{b:Nat}{l:List Int}(h:nS w b 3 (l.map V).toArray)(hl:l.length<=8):kX (·=b) w (some ⟨b,0,none⟩) l.length l:=by
 refine ⟨oH _,by simp only [maxLen];omega,fun _=>⟨rfl,rfl,h.lt,fun i x hx=>⟨[V x],fun j v hv=>?_,rfl⟩⟩⟩;cases j with
 | zero=>
  injection hv with hv;subst hv;show w.cell? ⟨b,0+i * 1+0,none⟩=_;rw [Bh,Nat.mul_one,Nat.add_zero];exact h.cell (by simp [hx])
 | succ j=>simp at hv
theorem MU {F F':Nat→Prop}{w w':World}:∀ {cs:List (List Value)}{l:List Int},xH F w cs l→xH F' w' cs l
 | [],[],_=>trivial
 | _ :: _,_ :: _,h=>⟨h.1,MU h.2⟩
 | [],_ :: _,h=>h.elim
 | _ :: _,[],h=>h.elim
theorem Bx.mkR {w0 w w':World}{Z Z' G:Nat->Prop}{L:List It}{D:List Da}{a:Option Addr}{c:Nat}{cs:List (List Value)}{l:List Int}(h:Bx w0 w Z G L D)(k:Bx w w' Z' (lH []) [.own w.heap.size a c 3 (Rp.sz Int) cs] [.els cs l]):Bx w0 w' Z G (.own w0.heap.size a c 3 (Rp.sz Int) cs :: L) (.els cs l :: D):=by have ho:=k.bo 0 rfl;have h1:=h.push (it:=.own w.heap.size a c 3 (Rp.sz Int) cs) k.ex (k.at 0 rfl) (fun b hb=>(ho.row b hb).1);exact (h1.rb 0 w0.heap.size rfl h.rM.size).kF (d:=.els cs l) (MU (k.de 0 rfl))
theorem Bx.ad7 {w0 w:World}{Z G:Nat->Prop}{L:List It}{D:List Da}{b n:Nat}(h:Bx w0 w Z G (.box b 4 (List.replicate n (Value.bool true)).toArray :: L) D)(hb:w0.heap.size<=b)(hn:n<=8):Bx w0 w Z G L (.l (some ⟨b,0,none⟩) n (List.replicate n true) :: D):=by
 have hB:nS w b 4 (List.replicate n (Value.bool true)).toArray:=h.bk 0 rfl;refine (h.tl).kF (d:=.l (some ⟨b,0,none⟩) n (List.replicate n true)) ⟨by simp,by simp only [maxLen];omega,fun h0=>⟨rfl,⟨fun hl=>?_,fun it hi hc=>(Aq.1 h.pw).1 it hi b rfl hc⟩,hB.lt,fun i x hx=>⟨[.bool x],fun j v hv=>?_,rfl⟩⟩⟩
 · exact absurd hl (by show ¬ b < _;omega)
 · cases j with
   | zero=>
    injection hv with hv;subst hv;show w.cell? ⟨b,0+i * 1+0,none⟩=_;rw [Bh,Nat.mul_one,Nat.add_zero];have hx':=hx;rw [List.getElem?_replicate] at hx';split at hx'
    · injection hx' with hx';subst hx';exact hB.cell (by simp [*])
    · cases hx'
   | succ j=>simp at hv
theorem Vn {fu:Nat}{w:World}{A:Nat->Prop}{rb:Nat}{x:vV}{g:qx}{s:Vf}{src:jL}{tl:List Value}{fr:nK}(hP:Pre w A [] (aaN s src))(hr:nS w rb 69 (Kc s src ++ tl).toArray)(ha:(It.act x g).p w)(hm:YX (jD fu src) g=some fr):Calls prog 94 #[Pt rb,Pt x.b] w (pU fun v w'=>∃ A1 c1,v=.agg #[V fr.j,V fr.a,.slice A1 fr.c.length c1]/\Bx w w' A (lH []) [] [.l A1 c1 fr.c]):=by
 have b:=hP.bx;clear hP;unfold YX at hm;obtain ⟨vs,hv,hm⟩:=bs hm;refine cf func94 rfl ?_;refine lG [(0,Pt rb),(1,Pt x.b)] ⟨rfl,rfl,trivial⟩ fun av=>?_;have hE:∀ u,Ext w u->nS u rb 69 (Kc s src ++ tl).toArray/\(It.act x g).p u:=fun u e=>⟨nS.ext hr e,yS ha e⟩;refine go ?_;refine su b (jT CP) fun w1 b4 b=>?_;refine go ?_;refine Es b (fun u=>nS u rb 69 (Kc s src ++ tl).toArray/\(It.act x g).p u) (hE _ b.ex.drew) (by kernel_rfl) fun m=>?_;replace b:=m.1;refine pF 0 r (oF r) m (pF 1 r (xn r) m (pF 2 r (Ua r) m (uF 3 r (fun h=>l3 r (It.o9 h.2.2) r) m (pF 4 r (oF r) m (pF 5 r (xn r) m (pF 6 r (UZ r) m (uF 7 r (fun h=>l3 r (It.o9 h.2.2) r) m (pF 8 r (ND r r) m ?_))))))));refine hO 9 (oo r r (nD b (jT CP)) ?_);rintro _ w2 ⟨b5,rfl,b⟩;refine ⟨sF ⟨b.tl,hE _ b.ex⟩,hO 10 (os r r (oM b 0 [V g.f,V g.st,sn] r CP r r) fun w3 b=>⟨sF ⟨b.tl,hE _ b.ex⟩,hD ?_⟩)⟩;refine goC b ?_;refine Es b (fun u=>nS u rb 69 (Kc s src ++ tl).toArray/\(It.act x g).p u) (hE _ b.ex.drew) (by kernel_rfl) fun m=>?_;replace b:=m.1;refine pF 0 r (oF r) m (pF 1 r (xn r) m (pF 2 r (YI r) m (uF 3 r (fun h=>l7 (Kc s src) Du xL r h.2.1) m (pF 4 r (oF r) m (pF 5 r (xn r) m (pF 6 r (Ua r) m (uF 7 r (fun h=>l3 r (It.o9 h.2.2) r) m (pF 8 r (oF r) m (pF 9 r (xn r) m (pF 10 r (UZ r) m (uF 11 r (fun h=>l3 r (It.o9 h.2.2) r) m (pF 14 r (mi r) m ?_))))))))))));have hsz:=b.rM.size;refine hO 12 (oc r r (ec ZP r) (Fb fu (b.pr [] [0,1] [0,1,2,3] r) hv) ?_);rintro _ w4 ⟨A1,c1,cs1,rfl,hK⟩;replace b:=b.cn [] [0,1] hK;refine ⟨sF ⟨(b.tl).dp [1,2,3,4],hE _ b.ex⟩,pF 13 r (lT underlying22 r) ⟨(b.tl).dp [1,2,3,4],hE _ b.ex⟩ (hD ?_)⟩;have hbd:=(b.de 0 rfl).len;replace b:=b.rb 0 w.heap.size rfl hsz;replace b:=b.fz 0 0 rfl rfl;have hbd:=(b.dl 0 rfl).bd;obtain ⟨sv,hsv,hm⟩:=bs hm;obtain rfl:=sm hm;clear m;replace b:=b.Cy qO 65
 refine goC b ?_
 refine kK (fun aw f w'=>∃ (t:Nat)(acc:List qO)(a1:Option Addr)(c2:Nat)(cs:List (List Value)),aw=vs.length - t∧t≤vs.length∧
     Has f [(0,Pt rb),(1,Pt x.b),(4,Pt b4),(5,Pt b5),(32,.slice A1 vs.length c1),(33,V (vs.length:Int)),(34,V (t:Int))]/\
     Bx w w' A (lH []) [.own w.heap.size a1 c2 65 (Rp.sz qO) cs,.box b5 62 #[V g.f,V g.st,.slice a1 acc.length c2],.box b4 62 #[V 0,V 0,sn]] [.els cs acc,.l A1 c1 vs]/\SE g.ws (vs.drop t) acc=some sv)
   vs.length ⟨0,[],none,0,[],rfl,uy _,⟨rfl,rfl,rfl,rfl,rfl,rfl,rfl,trivial⟩,b.dp [0,1],hsv⟩ ?_
 clear b hsv;rintro aw f w1 ⟨t,acc,a1,c2,cs,rfl,ht,hf,b,hm⟩ J hJ;obtain ⟨av,rfl⟩:=mJ _ _ hf;clear hf;refine goC b ?_;refine ou rfl (fun h=>?_) (fun h=>?_)
 · obtain ⟨v,hv'⟩:=lZ (l:=vs) (k:=t) (by omega);rw [mD hv',SE] at hm;obtain ⟨row,h1,hm⟩:=bs hm;obtain ⟨k,hk,hrow⟩:=RA h1;obtain ⟨acc2,h2,hm⟩:=bs hm;have h8:row.length<=8:=(hE _ b.ex).2.2.2.2.2.2.2.2 row (wC hrow);refine goC b ?_;refine kr (kY ru ny rfl rfl rfl (b.dl 1 rfl) hv') (kr (jV underlying3 rfl rfl ((uo (ds:=[V v]) (b.dl 1 rfl) hv' (fun _ h=>h)) 0 _ rfl)) ?_);refine goC b ?_;refine adY rfl (It.o9 (hE _ b.ex).2) rfl ?_;refine goC b ?_;refine aaV (hE _ b.ex).2 hrow rfl rfl hk fun r0 hr0 hB=>?_;refine pW (l6 Zm rfl) (Mc fu (h:=row) (j:=(·=r0)) (i:=row) ⟨fun _ h=>(by cases h),fun _ h=>(by cases h),List.Pairwise.nil,fun d hd=>?_⟩ ?_) ?_
   · rcases List.mem_singleton.1 hd with rfl;exact NA hB h8
   · unfold DX app;rw [kg (by simp;omega)];rfl
   rintro _ w2 ⟨a5,c5,cs5,rfl,hK⟩;replace b:=Bx.mkR b hK;replace b:=b.fz 0 0 rfl rfl;refine goC b ?_;refine nW (aMk (.bool false) b row.length underlying63 Pz rfl rfl rfl rfl (by omega) (by omega)) ?_;rintro _ w3 ⟨b9,hb9,rfl,b⟩;rw [adK] at b;refine goC b ?_
   refine kK (fun aw f w'=>∃ i:Nat,aw=row.length - i∧i≤row.length∧Has f [(0,Pt rb),(1,Pt x.b),(4,Pt b4),(5,Pt b5),(7,V v),(8,.slice a5 row.length c5),(9,.slice (some ⟨b9,0,none⟩) row.length row.length),(32,.slice A1 vs.length c1),(33,V (vs.length:Int)),(34,V (t:Int)),(50,V (row.length:Int)),(51,V (i:Int))]∧
     Bx w w' A (lH []) [.box b9 4 (VK i row.length).toArray,.own w.heap.size a1 c2 65 (Rp.sz qO) cs,.box b5 62 #[V g.f,V g.st,.slice a1 acc.length c2],.box b4 62 #[V 0,V 0,sn]] [.l a5 c5 row,.els cs acc,.l A1 c1 vs]) row.length
     ⟨0,rfl,uy _,⟨rfl,rfl,rfl,rfl,rfl,rfl,rfl,rfl,rfl,rfl,rfl,rfl,trivial⟩,b⟩ ?_
   clear b;rintro aw f w4 ⟨i,rfl,hi,hf,b⟩ J3 hJ3;obtain ⟨av,rfl⟩:=mJ _ _ hf;clear hf;refine goC b ?_;refine ou rfl (fun hlt=>?_) (fun hlt=>?_)
   · refine goC b ?_;refine kr (xIdx i underlying63 Pz rfl rfl rfl (by omega)) ?_;refine lD (tb b 0 [.bool true] rfl Pz rfl rfl rfl rfl (by simp [VK];omega) (ad3 (by omega))) ?_;intro w5 b;dsimp only [List.set] at b;refine goC b ?_;exact hJ3 (row.length - (i+1)) _ _ (by omega) ⟨i+1,rfl,by omega,⟨rfl,rfl,rfl,rfl,rfl,rfl,rfl,rfl,rfl,rfl,rfl,congrArg V (Px (by omega)),trivial⟩,b⟩
   · obtain rfl:i=row.length:=by omega
     refine goC b ?_;refine uS ?_;rw [ac6] at b;replace b:=Bx.ad7 b hb9 h8;refine goC b ?_;refine kr (QB rfl rfl rfl) ?_;refine nW (jO b [[V v,.slice (some ⟨b9,0,none⟩) row.length row.length,.slice a5 row.length c5]] ([⟨v,List.replicate row.length true,row⟩]:List qO) (OU rfl) rfl rfl (by decide) ⟨qO.inn ⟨_,_,_,_,by rw [List.length_replicate],b.dl 0 rfl,b.dl 1 rfl⟩,trivial⟩) ?_;rintro _ w5 ⟨b6,rfl,b⟩;refine nW (kR b 1 3 rfl rfl underlying60 HZ rfl (by decide) (by decide) (oH _) rfl rfl (b.AR 0 0 rfl rfl) h2) ?_;rintro _ w6 ⟨a7,c7,cs7,rfl,b⟩;refine goC b ?_;refine lD (t_n b 2 [.slice a7 acc2.length c7] rfl YA rfl rfl) fun w7 b=>?_;refine goC b ?_;exact hJ (vs.length - (t+1)) _ _ (by omega) ⟨t+1,acc2,a7,c7,cs7,rfl,by omega,⟨rfl,rfl,rfl,rfl,rfl,rfl,congrArg V (Px (by omega)),trivial⟩,b.ad [1,2,3] [3,4],hm⟩
 · obtain rfl:t=vs.length:=by omega
   rw [lW,SE] at hm;obtain rfl:=sm hm;refine goC b ?_;refine uS ?_;refine goC b ?_;refine kr (l7 [V g.f,V g.st,.slice a1 acc.length c2] PX CP rfl (b.bk 1 rfl)) ?_;refine lD (oM b 2 [V g.f,V g.st,.slice a1 acc.length c2] rfl CP rfl rfl) fun w2 b=>?_;refine goC b ?_;exact kH (jC rfl (vC rfl underlying62 rfl CP rfl (b.bk 2 rfl)) ⟨a1,c2,rfl,(b.Ob 0 0 rfl rfl).ad [] [0]⟩)
section
variable {w w0:World}{Z G:Nat->Prop}{L:List It}{D:List Da}{T:TypeId}{x:vV}{g:qx}
theorem QA (h:Bx w0 w Z G L D)(i:Nat){g':qx}(hi:L[i]?=some (It.vY T x g)){b:Nat}(hb:(It.vY T x g).F b)(ns:Array Value)(hp:(It.vY T x g').p (w.setRow b ns)):Bx w0 (w.setRow b ns) Z G (L.set i (It.vY T x g')) D:=by have hc:=Gu.setRow w b ns;exact h.put i hi ⟨hc.os,hc.tape,hc.output,hc.size,fun k hk hn=>hc.block k hk (by intro e;injection e with e;exact hn (by subst e;exact hb))⟩ hp (fun k hk=>.inl hk)
theorem Bo {b k:Nat}{ns:Array Value}(h:k≠b):(w.setRow b ns).heap[k]?=w.heap[k]?:=setRow_other w b k ns h
theorem Gw.set {R:List Nat}{m:List (List Int)}{k r:Nat}{l:List Int}(h:Gw w R m)(hn:R.Nodup)(hr:R[k]?=some r):Gw (w.setRow r (l.map V).toArray) R (m.set k l):=by
 induction R generalizing m k with
 | nil=>simp at hr
 | cons a R ih=>
  cases m with
  | nil=>exact h.elim
  | cons q m=>
   have hn2:=List.nodup_cons.1 hn;cases k with
   | zero=>
    simp only [EW,DT] at hr;subst hr;exact ⟨h.1.setRow _,h.2.st fun b hb=>Bo (fun e=>hn2.1 (by rw [<-e];exact hb))⟩
   | succ k=>
    have hr':R[k]?=some r:=by simpa using hr
    refine ⟨?_,ih h.2 hn2.2 hr'⟩;have:=h.1;unfold nS at this ⊢;rw [Bo (fun e=>hn2.1 (by rw [e];exact wC hr'))];exact this
theorem Nu:∀ {R:List Nat}{m:List (List Int)}{k:Nat}{l l':List Int},m[k]?=some l→l'.length=l.length→F8 R (m.set k l')=F8 R m
 | _ :: _,_ :: _,0,l,l',h,e=>by simp only [EW,DT] at h;subst h;simp only [List.set_cons_zero,F8,e]
 | r :: R,q :: m,k+1,l,l',h,e=>by simp only [List.set_cons_succ,F8];rw [Nu (R:=R) (k:=k) (by simpa using h) e]
 | [],_,_,_,_,_,_=>by simp [F8]
 | _ :: _,[],_,_,_,h,_=>by simp at h
theorem Jm (h:(It.vY T x g).p w){k r:Nat}{l l':List Int}(hr:x.R[k]?=some r)(hk:g.ws[k]?=some l)(hl:l'.length=l.length):(It.vY T x { g with ws:=g.ws.set k l' }).p (w.setRow r (l'.map V).toArray):=by
 obtain ⟨h1,h2,h3,h4,h5,h6,h7,h8⟩:=h;have hm:=wC hr;refine ⟨?_,h2.set h7 hr,?_,h4,h5,h6,h7,fun q hq=>?_⟩
 · have e:(g.ws.set k l').length=g.ws.length:=wV;show nS _ x.b T #[V g.f,V g.st,.slice x.A (g.ws.set k l').length x.c];rw [e];unfold nS at h1 ⊢;rw [Bo (fun e=>h4 (by rw [e];exact hm))];exact h1
 · show Go.Fw.Own _ 0 22 1 x.A (g.ws.set k l').length x.c (F8 x.R (g.ws.set k l'));rw [wV,Nu hk hl];exact Go.Fw.Own.same h3 fun b hb=>Bo (fun e=>h6 r hm (by rw [<-e];exact hb))
 · rcases EO hq with hq | rfl
   · exact h8 q hq
   · rw [hl];exact h8 l (wC hk)
variable {ρ:Operand->Value}{d:Option Nat}{ty:TypeId}{pos:String}{af:Array Edge}{gd:Option (Nat × Bool)}{p y:Operand}
theorem Ru (hL:Bx w0 w Z G L D)(i:Nat){id:Int}(hi:L[i]?=some (It.vY T x g))(hx:ρ p=.pointer (some ⟨x.b,0+1,none⟩))(hy:ρ y=V id) :TV prog ρ ⟨d,.store 3 p y,ty,pos,af,gd⟩ w fun w'=>Bx w0 w' Z G (L.set i (It.vY T x { g with st:=id })) D:=by have h:=hL.at i hi;have hB:=It.o9 h;obtain ⟨q,hi1,hi2,hi3,hi4⟩:=ny;have hst:=run_storeCells_at (P:=prog) x.b 1 T [V id] 0 _ w hB (by show 1+0+1<=3;omega) (fun v hv=>by rcases List.mem_singleton.1 hv with rfl;rfl);obtain ⟨h1,h2,h3,h4,h5,h6,h7,h8⟩:=h;refine ⟨w.setRow x.b #[V g.f,V id,.slice x.A g.ws.length x.c],?_,QA hL i hi (.inl rfl) _ ⟨hB.setRow _,h2.st fun b hb=>Bo (fun e=>h4 (by rw [<-e];exact hb)),Go.Fw.Own.same h3 fun b hb=>Bo (fun e=>h5 (by rw [<-e];exact hb)),h4,h5,h6,h7,h8⟩⟩;have hst':(storeCells ⟨x.b,1,none⟩ [V id] 0).run prog w=.ok () (w.setRow x.b #[V g.f,V id,.slice x.A g.ws.length x.c]):=hst;simp [execOp,hx,Instr.storeAt,Instr.sureAddr,storeVar,sizeOf,typeInfo,hi1,hi3,hst',hy,Value.cells]
theorem CY (hL:Bx w0 w Z G L D)(i:Nat){k j r:Nat}{l:List Int}{n:Int}(hi:L[i]?=some (It.vY T x g))(hr:x.R[k]?=some r)(hk:g.ws[k]?=some l)(hj:j < l.length)(hx:ρ p=.pointer (some ⟨r,j,none⟩))(hy:ρ y=V n) :TV prog ρ ⟨d,.store 3 p y,ty,pos,af,gd⟩ w fun w'=>Bx w0 w' Z G (L.set i (It.vY T x { g with ws:=setW g.ws (k,j) n })) D:=by
 have h:=hL.at i hi;obtain ⟨r',hr',hB,_⟩:=It.tO h hk;rw [hr] at hr';obtain rfl:=vK hr';obtain ⟨q,hi1,hi2,hi3,hi4⟩:=ny;have hst:=run_storeCells_at (P:=prog) r j 3 [V n] 0 _ w hB (by simp;omega) (fun v hv=>by rcases List.mem_singleton.1 hv with rfl;rfl);have e:((l.map V).toArray.toList.take (j+0) ++ [V n] ++ (l.map V).toArray.toList.drop (j+0+[V n].length)).toArray=((l.set j n).map V).toArray:=by
  congr 1
  rw [List.map_set,List.set_eq_take_append_cons_drop];simp [hj]
 rw [e] at hst;have hw:setW g.ws (k,j) n=g.ws.set k (l.set j n):=by simp [setW,Gb,hk]
 rw [hw];refine ⟨_,?_,QA hL i hi (.inr (.inr (wC hr))) _ (Jm h hr hk wV)⟩;simp [execOp,hx,Instr.storeAt,Instr.sureAddr,storeVar,sizeOf,typeInfo,hi1,hi3,hst,hy,Value.cells]
end
end Go.Proofs.YtfglbdkfnphjgaaGreat
namespace Go.Fw
open Go.RowKit
def It.obj (b:Nat)(o:Obj):It where
 F k:=k=b
 p w:=w.heap[b]?=some o
 bd w h k hk:=by subst hk;exact (Array.getElem?_eq_some_iff.1 h).1
 st w w' h k _:=by rw [k b rfl];exact h
section
variable {w0 w w':World}{Z G:Nat->Prop}{L:List It}{D:List Da}
theorem Bx.putObj (h:Bx w0 w Z G L D)(i:Nat){b:Nat}{o:Obj}(o':Obj)(hi:L[i]?=some (.obj b o)):Bx w0 (w.putObj b o') Z G (L.set i (.obj b o')) D:=by have hb:w.heap[b]?=some o:=h.at i hi;have hlt:=(Array.getElem?_eq_some_iff.1 hb).1;exact h.put i hi ⟨rfl,rfl,rfl,by simp,fun k hk hn=>World.putObj_heap_other (fun e=>hn e)⟩ (World.putObj_heap_same hlt) (fun k hk=>.inl hk)
theorem Bx.alloc (h:Bx w0 w Z G L D)(o:Obj):Bx w0 (w.alloc o) Z G (.obj w.heap.size o :: L) D:=
 h.push ((Ext.refl w).alloc o) (World.alloc_heap_new w o) (fun k hk=>by have hk:k=w.heap.size:=hk;omega)
end
structure Wd (F:Fence):Prop where
 fn:∀ f,F.fn f
 dp:F.depth=none
 cal:∀ {P g args w R},Calls P g args w R->CallsIn F 0 P g args w R
theorem Wd.wide:Wd Fence.wide:=⟨fun _=>trivial,rfl,fun h=>callsIn_wide.2 h⟩
theorem Wd.rnd (l:Nat):Wd (Fence.wide.inRound l):=⟨fun _=>trivial,rfl,fun h=>CallsIn.inRound l (callsIn_wide.2 h)⟩
def Zp (F:Fence)(P:Program)(N:Fz)(ops:Array Oper)(K:KK)(l:List Oper)(f:Fr)(w:World):Prop:=(∀ o ∈ l,wL N o=true)->∀ a,Fg N f a->wpListIn F 0 P ops (EI N K) l a w
section
variable {F:Fence}{P:Program}{N:Fz}{ops:Array Oper}{K:KK}{rest:List Oper}{f:Fr}{w w':World}{d:Option Nat}{op:Op}{ty:TypeId}{pos:String}{af:Array Edge}
theorem abe (h:K.n f w):Zp F P N ops K [] f w:=fun _ _ ha=>wpListIn_nil ⟨f,ha,h⟩
theorem OM {v:Value}(hF:Wd F)(hn:∀ c,op≠.defer c)(h:(execOp (ev f) ⟨d,op,ty,pos,af,none⟩).run P w=.ok (.value v) w')(k:Zp F P N ops K rest (nU f d v) w'):Zp F P N ops K (⟨d,op,ty,pos,af,none⟩ :: rest) f w:=by intro hok a ha;have h1:=hok _ (Bn ..);refine wpListIn_plain rfl fun K' hK=>?_;unfold Oper.wpIn;refine ⟨fun f _=>hF.fn f,?_⟩;rw [Oper.semAt_eq _ _ _ hn,ha.yT,h];exact hK _ _ (k (fun o ho=>hok o (wI _ ho)) _ (ha.put d (rX h1) v))
theorem Zi {l:Nat}{args:Array Value}{R:Value->World->Prop}{xs:List Operand}{ts:Array TypeId}{x:Operand}(hx:ev f x=.func (.yield l) #[] #[])(ha':(xs.map (ev f)).toArray=args)(hc:YieldAt Fence.wide 0 P l args w (pU R))(k:∀ v w'',R v w''->Zp Fence.wide P N ops K rest (nU f d v) w''):Zp Fence.wide P N ops K (⟨d,.call { callee:=.value x,args:=xs.toArray,argTypes:=ts },ty,pos,af,none⟩ :: rest) f w:=by
 intro hok a ha;have h1:=hok _ (Bn ..);refine wpListIn_plain rfl fun K' hK=>?_;unfold Oper.wpIn;refine ⟨fun f _=>trivial,?_⟩;rw [Oper.semAt_eq _ _ _ (fun c=>by intro h;cases h),ha.yT];obtain ⟨fn,tmps,asq,bd,hy,hr⟩:=hc;have he:(execOp (ev f) ⟨d,.call { callee:=.value x,args:=xs.toArray,argTypes:=ts },ty,pos,af,none⟩).run P w=.ok (.round l fn tmps asq bd) w:=by subst ha';simp [execOp,resolve,hx,invoke,Deferred.ofValue,hy]
 rw [he];refine ⟨fun h=>(by cases h),hr.mono fun e w'' he=>?_⟩;obtain ⟨v,rfl,hR⟩:=he;exact hK _ _ (k v w'' hR (fun o ho=>hok o (wI _ ho)) _ (ha.put d (rX h1) v))
theorem abo {Q:Post}{i:Nat}{l:List Oper}(h:Zp Fence.wide P N l.toArray ⟨Q.n,Q.p⟩ l f w):WP P N (.region i l.toArray false) Q f w:=by
 unfold WP;intro hok a ha;have hl:∀ o ∈ l,wL N o=true:=by simpa [Fj,Array.all_eq_true_iff_forall_mem] using hok
 refine Code.wp_mono (fun e a w q=>?_) (wpIn_wide.1 (wpIn_region_lit (n:=0) (h hl a ha)));cases e with
 | normal=>exact q
 | panic c=>exact q
 | _=>exact q.elim
end
abbrev mark (D:Nat):Deferred:={ target:=.collected D,args:=#[] }
abbrev Qx (fn:FuncId)(tmps:Array Value)(ps:Array Tmp)(asq bd:Code)(D:Nat):Loop:={ state:=.ready,pending:=none,fn,tmps,params:=ps,assign:=asq,body:=bd,defers:=D }
end Go.Fw
namespace Go.Proofs.YtfglbdkfnphjgaaGreat
open Go.RowKit Go.Fw Go.Proofs.Tryz
theorem aaF:jH prog 93:=⟨_,func93,by kernel_rfl,by kernel_rfl⟩
theorem YL:jH prog 109:=⟨_,func109,by kernel_rfl,by kernel_rfl⟩
theorem Te {P:Program}{w:World}{ρ:Operand->Value}{d:Option Nat}{ty:TypeId}{pos:String}{af:Array Edge}{g:Option (Nat × Bool)}{x:Operand}(v:Value)(h:ρ x=v):Yl P ρ (.assign x) d ty pos af g w v:=by rw [<-h];rfl
theorem xw {P:Program}{w:World}{ρ:Operand->Value}{d:Option Nat}{ty:TypeId}{pos:String}{af:Array Edge}{g:Option (Nat × Bool)}{x:Operand}(v:Value)(h:ρ x=v):Yl P ρ (.move x) d ty pos af g w v:=by rw [<-h];rfl
theorem YO {P:Program}{w:World}{ρ:Operand->Value}{d:Option Nat}{ty:TypeId}{pos:String}{af:Array Edge}{g:Option (Nat × Bool)}{fn:Fn}{caps:List Operand}{vs:List Value}(h:caps.map ρ=vs):Yl P ρ (.makeFunc fn #[] caps.toArray) d ty pos af g w (.func fn #[] vs.toArray):=by subst h;simp [Yl,execOp,Instr.makeFunc]
theorem NN {w:World}{A:Option Addr}{n c:Nat}{Z:Nat->Prop}:Calls prog 93 #[.slice A n c] w (pU fun v w'=>∃ b,v=.func (.func 109) #[] #[Pt b]/\Bx w w' Z (lH []) [.box b 67 #[.slice A n c]] []):=by have b:Bx w w Z (lH []) [] []:=Pre.bx ⟨fun _ h=>(by cases h),fun _ h=>(by cases h),List.Pairwise.nil,fun _ h=>(by cases h)⟩;refine cf func93 rfl ?_;refine lG [(0,.slice A n c)] ⟨rfl,trivial⟩ fun av=>?_;refine go ?_;refine su b (uK rfl) fun w1 b1 b=>?_;refine kr (Te .nilFunc rfl) ?_;refine go ?_;refine kr (YO (caps:=[_]) (vs:=[Pt b1]) rfl) ?_;refine kr (Te (.func (.func 109) #[] #[Pt b1]) rfl) ?_;refine go ?_;exact kH (jC rfl (kL (v:=.func (.func 109) #[] #[Pt b1]) rfl) ⟨b1,rfl,b⟩)
theorem aao {I:Nat->World->Prop}{l n bx c:Nat}{A:Option Addr}{ps:Nat->Nat}(hb:∀ k w,I k w->nS w bx 67 #[.slice A n c])(he:∀ k w,k < n->I (k+1) w->A=some ⟨nE A,ow A,none⟩/\w.cell? ⟨nE A,ow A+k * 1,none⟩=some (Pt (ps k)))(hy:∀ k w,k < n->I (k+1) w->YieldAt Fence.wide 0 prog l #[V (k:Int),Pt (ps k)] w (pU fun v w'=>v=.bool true/\I k w')){w:World}(h0:I n w)(hn:n<=1000) :Calls prog 109 #[.func (.yield l) #[] #[],Pt bx] w (pU fun v w'=>v=.tuple #[]/\I 0 w'):=by
 refine cf func109 rfl ?_;refine lG [(0,.func (.yield l) #[] #[]),(1,Pt bx)] ⟨rfl,rfl,trivial⟩ fun av=>?_;refine go ?_;refine adb rfl (hb n w h0) rfl ?_;refine ado rfl ?_;refine go ?_
 refine kK (fun aw f w'=>∃ k:Nat,aw=k∧k≤n∧Has f [(0,.func (.yield l) #[] #[]),(1,Pt bx),(3,V ((k:Int) - 1))]∧I k w')
   n ⟨n,rfl,oH _,⟨rfl,rfl,congrArg V (by unfold wr;exact Pj (by omega) (by omega)),trivial⟩,h0⟩ ?_
 rintro aw f w1 ⟨k,rfl,hk,hf,hI⟩ J hJ;obtain ⟨av,rfl⟩:=mJ _ _ hf;clear hf;refine go ?_;refine ou rfl (fun h=>?_) (fun h=>?_)
 · obtain ⟨k,rfl⟩:∃ m,aw=m+1:=⟨aw - 1,by omega⟩;obtain ⟨hA,hc⟩:=he k w1 (by omega) hI;rw [show (((k+1:Nat):Int) - 1)=(k:Int) by omega];refine Hz ?_;refine Im ?_;refine pG ?_;refine Im ?_;refine abo ?_;refine OM Wd.wide (fun _ h=>by cases h) (xw (.func (.yield l) #[] #[]) rfl) ?_;refine OM Wd.wide (fun _ h=>by cases h) (Qw rfl) ?_;refine OM Wd.wide (fun _ h=>by cases h) (WH rfl (hb _ _ hI) rfl) ?_;refine OM Wd.wide (fun _ h=>by cases h) (Qw rfl) ?_;refine OM Wd.wide (fun _ h=>by cases h) (AV k hA underlying67 Wz rfl rfl (by omega) (by omega)) ?_;refine OM Wd.wide (fun _ h=>by cases h) (jV (a:=⟨nE A,ow A+k * 1,none⟩) underlying92 rfl rfl hc) ?_;refine Zi (l:=l) (args:=#[V (k:Int),Pt (ps k)]) (xs:=[_,_]) rfl rfl (hy k w1 (by omega) hI) ?_;rintro _ w2 ⟨rfl,hI2⟩;refine OM Wd.wide (fun _ h=>by cases h) (BU rfl) (abe ?_);refine go ?_;refine hJ k _ _ (by omega) ⟨k,rfl,by omega,⟨rfl,rfl,congrArg V (by unfold wr;exact Pj (by omega) (by omega)),trivial⟩,hI2⟩
 · obtain rfl:aw=0:=by omega
   refine go ?_;refine uS ?_;exact AQ rfl ⟨rfl,hI⟩
structure Rn where
 B:Nat
 rb:Nat
 s:Vf
 src:jL
 st:Nat
 fr:Nat
 mo:Nat
structure BX where
 lA:Option Addr
 lC:Nat
 eA:Option Addr
 eC:Nat
 ec:List (List Value)
 oA:Option Addr
 oC:Nat
 oc:List (List Value)
abbrev qo (R:Rn)(m:BX)(n k h o:Nat):List Value:=[.slice R.s.a1 R.src.a.a.length R.s.c1,.slice R.s.a2 R.src.a.b.length R.s.c2,.slice R.s.a3 R.src.c.length R.s.c3,.slice R.s.a4 R.src.b.length R.s.c4,.slice m.lA n m.lC,V (h:Int),V (R.st:Int),V (R.fr:Int),V (R.mo:Int),.slice m.eA k m.eC,.slice m.oA o m.oC]
abbrev Mac (R:Rn)(m:BX)(ptrs:List Nat)(hist:List kC)(out:List Int):List It:=
 [.box R.rb 69 (qo R m ptrs.length (window hist R.fr R.mo).length hist.length out.length).toArray,.own R.B m.lA m.lC 92 1 (ptrs.map fun b=>[Pt b]),.own R.B m.eA m.eC 59 (Rp.sz kC) m.ec,.own R.B m.oA m.oC 3 (Rp.sz Int) m.oc]
abbrev oV (R:Rn)(m:BX)(hist:List kC)(out:List Int):List Da:=
 [.els m.ec (window hist R.fr R.mo),.els m.oc out,.l R.s.a1 R.s.c1 R.src.a.a,.l R.s.a2 R.s.c2 R.src.a.b,.l R.s.a3 R.s.c3 R.src.c,.l R.s.a4 R.s.c4 R.src.b]
def zx (T:TypeId)(w:World)(G:Nat→Prop):List vV→List qx→Prop
 | x :: xs,g :: gs=>((It.vY T x g).p w/\∀ b,(It.vY T x g).F b->¬ G b)/\zx T w G xs gs
 | [],[]=>True
 | _,_=>False
theorem zx.len {T:TypeId}{w:World}{G:Nat→Prop}:∀ {xs:List vV}{gs:List qx},zx T w G xs gs→xs.length=gs.length
 | _ :: _,_ :: _,h=>congrArg (·+1) (zx.len h.2)
 | [],[],_=>rfl
 | _ :: _,[],h=>h.elim
 | [],_ :: _,h=>h.elim
theorem zx.get {T:TypeId}{w:World}{G:Nat→Prop}:∀ {xs:List vV}{gs:List qx}{k:Nat}{g:qx},zx T w G xs gs→gs[k]?=some g→∃ x,xs[k]?=some x∧(It.vY T x g).p w
 | x :: _,_ :: _,0,g,h,e=>by simp only [EW,DT] at e;subst e;exact ⟨x,rfl,h.1.1⟩
 | _ :: _,_ :: _,k+1,g,h,e=>zx.get (k:=k) h.2 (by simpa using e)
 | [],[],_,_,_,e=>by simp at e
 | _ :: _,[],_,_,h,_=>h.elim
 | [],_ :: _,_,_,h,_=>h.elim
theorem zx.mv' {T:TypeId}{w0 w:World}{G G':Nat→Prop}(hc:IG G w0 w)(hg:∀ b,b < w0.heap.size→G' b→G b):∀ {xs:List vV}{gs:List qx},zx T w0 G xs gs→zx T w G' xs gs
 | x :: _,g :: _,h=>by have hb:∀ b,(It.vY T x g).F b->b < w0.heap.size:=(It.vY T x g).bd w0 h.1.1;exact ⟨⟨(It.vY T x g).st w0 w h.1.1 (fun b hF=>hc.block b (hb b hF) (h.1.2 b hF)) hc.size,fun b hF hG=>h.1.2 b hF (hg b (hb b hF) hG)⟩,zx.mv' hc hg h.2⟩
 | [],[],_=>trivial
 | _ :: _,[],h=>h.elim
 | [],_ :: _,h=>h.elim
abbrev Qn:=zx 95
def Now (w0 w:World)(A G:Nat->Prop)(R:Rn)(ptrs:List Nat)(x:vV)(s:Sg):Prop:=∃ m:BX,Bx w0 w A G (Mac R m ptrs s.hist s.out ++ [It.act x s.a]) (oV R m s.hist s.out)
def aaO (w0 w:World)(A G:Nat->Prop)(R:Rn)(ptrs:List Nat)(x:vV)(s:Sg):Prop:=∃ more,Now w0 w A G R (ptrs ++ more) x s
end Go.Proofs.YtfglbdkfnphjgaaGreat
