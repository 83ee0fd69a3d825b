/- Lemmas. -/
import Derived.Test.YtdkneekpdecjbaaGreatZ10
set_option linter.all false
set_option maxRecDepth 4000
set_option maxHeartbeats 12800000
namespace Go.Proofs.YtdkneekpdecjbaaGreat
open Go.RowKit Go.Fw Go.Proofs.Tryz
theorem JE:jH prog 148:=vT func148
theorem Cg {w:World}:Calls prog 148 #[] w (rV fun v w'=>v=.agg #[V (-1),sn]/\Ext w w'):=by refine cf func148 rfl ?_;have b:Bx w w (fun _=>True) (mD []) [] []:=Pre.bx ⟨fun _ h=>(by cases h),fun _ h=>(by cases h),List.Pairwise.nil,fun _ h=>(by cases h)⟩;refine go ?_;refine qZ b (jN oK) fun w1 b0 b=>?_;refine go ?_;refine jJ (Ec (v:=.agg #[V (-1),sn]) rfl (by kernel_rfl)) ?_;refine kV (mQ b 0 [V (-1),sn] rfl oK rfl rfl) fun w2 b=>?_;refine go ?_;refine lG ?_;exact jK rfl (uS rfl underlying64 rfl oK rfl (b.bk 0 rfl)) ⟨rfl,(b.ad [] []).ex⟩
theorem afp {ρ:Operand->Value}{w:World}{d:Option Nat}{ty:TypeId}{pos:String}{af:Array Edge}{g:Option (Nat × Bool)}{x y:Operand}{vb:Option Nat}{vals:Option (List (Pc × Int))}{l:List (Pc × Int)}{p:Pc}(h:(It.PX ekP Zl vb vals).p w)(hl:vals=some l)(hx:ρ x=.map vb)(hy:ρ y=.agg (cP p).toArray):Yl prog ρ (.lookup 87 x y false) d ty pos af g w (V ((pE l p).getD 0)):=by obtain ⟨q,rfl,hm⟩:=Ov (i:=none) h hl;exact Zk (z:=0) (ev:=Zl) (k:=p) underlying87 fkP (abC p9) hm hx hy
def LRo (R:Rn)(m:zN)(w0:World)(Z G:Nat->Prop)(p:Lo nO):Ending->World->Prop:=RP (fun v w'=>∃ e s' m' A c cs,p=.ok e s'/\v=.agg #[V e.b,.slice A e.a.length c]/\(∃ t,m'.bs=m.bs ++ t)/\Bx w0 w' Z G (Low R m' s' ++ [.own w0.heap.size A c 3 (Rp.sz Int) cs]) (.els cs e.a :: kK R m' s')) (fun ch w'=>Pb p ch/\Bx w0 w' Z G [] [])
theorem Rv {R:Rn}{i c:Nat}{a:OA}{cc:Nat}{first:List Int}{w:World}{Z G:Nat->Prop}{m0:zN}{s0:Lw}{q:Lo nO}(b:Bx w w Z G (Low R m0 s0 ++ []) (kK R m0 s0 ++ [.l a cc first]))(hZ:∀ b,G b->Z b)(hH:m0.bs[i]?=some c)(hB:R.B<=w.heap.size)(hm:yE i first s0=some q) :Calls prog 142 #[Pt R.lb,Pt c,.slice a first.length cc] w (LRo R m0 w Z G q):=by
 refine lq func142 rfl ?_;refine uN [(0,Pt R.lb),(1,Pt c),(2,.slice a first.length cc)] jA fun av=>?_;refine tV (nU ?_);refine FD b (jN oK) fun w1 b6 b=>?_;refine kr b ?_;have b:Bx w w1 Z G (Low R m0 s0 ++ [.box b6 64 #[V 0,sn]]) (kK R m0 s0 ++ [.l a cc first]):=b;refine vQ (Ot (i:=i) (c:=c)) (jO (vT func36) rfl) b hZ hB hH hm fun s m w2 hm hbs b=>?_;have hH:=uK hbs hH;obtain ⟨t,ht,hm⟩:=bs hm;obtain ⟨l,hl,hm⟩:=bs hm;obtain ⟨args,hargs,hm⟩:=bs hm;cases hm;obtain ⟨hcap,rfl⟩:=pY hargs;obtain ⟨hl1,h,h2,h3,h5,h7⟩:=EA b 8 4 rfl rfl hH ht;obtain ⟨A1,c1,rfl,hps⟩:=h7;replace b:=b.ko (d:=.l A1 c1 t.2) hps;have b:Bx w w2 Z G (Low R m s ++ [.box b6 64 #[V 0,sn]]) (kK R m s ++ [.l a cc first,.l A1 c1 t.2]):=b.ad [0,1,2,3,4,5,6,7,8,9] [1,2,3,4,5,6,7,8,9,10,11,0];refine kr b ?_
 refine qQ (fun f' w'=>∃ (A2:OA)(c2 b7:Nat)(cs2:LV),Has f' [(0,Pt R.lb),(1,Pt c),(6,Pt b6),(7,Pt b7)]∧
   Bx w w' Z G (Low R m s ++ [.box b6 64 #[V 0,sn],.box b7 64 #[V t.1,.slice A2 first.length c2],.own w.heap.size A2 c2 3 (Rp.sz Int) cs2]) (kK R m s ++ [.l A1 c1 t.2,.els cs2 first])) (fun J hJ=>?_) ?_
 · have happ:app ([]:List Int) first=some first:=by unfold app;rw [lF (by have:=hcap;simp at this ⊢;omega)];rfl
   refine EM b [8] fun b=>?_;have hlab:∀ u,Bx w u Z G (Low R m s ++ [.box b6 64 #[V 0,sn]]) (kK R m s ++ [.l a cc first,.l A1 c1 t.2])->yA u c 170 #[V t.1,.slice A1 t.2.length c1]:=fun u hu=>by obtain ⟨_,h',h2',_,h5',_⟩:=EA hu 8 4 rfl rfl hH ht;rw [h2] at h2';cases h2';exact h5'
   refine BQ b ?_;refine wN 3 rfl ?_;refine dU (fun hu=>yL rfl (hlab _ hu) rfl rfl rfl) (jL kE b) ?_;refine BQ b ?_;refine RH 5 7 (by kernel_rfl) (oo rfl rfl (kJ (b.Gf Int 3) 0 0 rfl rfl underlying22 p9 rfl (nD _) rfl rfl ((b.Gf Int 3).ysD 11 rfl) happ) ?_) (oo rfl rfl (ql b (jN oK)) ?_)
   · rintro _ w3 ⟨A2,c2,cs2,rfl,b⟩;have b':Bx w w3 Z G (Low R m s ++ [.box b6 64 #[V 0,sn]]) (kK R m s ++ [.l a cc first,.l A1 c1 t.2]):=b.ad [1,2,3,4,5,6,7,8,9,10] [1,2,3,4,5,6,7,8,9,10,11,12];refine ⟨jL kE b',?_⟩;refine wN 6 rfl ?_;refine dP (Ec (v:=.agg #[V t.1,.slice A2 first.length c2]) rfl (by kernel_rfl)) (jL kE b') ?_;refine hO 7 (oo rfl rfl (ql b (jN oK)) ?_);rintro _ w4 ⟨b7,rfl,b⟩;have b':Bx w w4 Z G (Low R m s ++ [.box b6 64 #[V 0,sn]]) (kK R m s ++ [.l a cc first,.l A1 c1 t.2]):=b.ad [2,3,4,5,6,7,8,9,10,11] [1,2,3,4,5,6,7,8,9,10,11,12];refine ⟨jL kE b',hO 8 (os rfl rfl (mQ b 0 [V t.1,.slice A2 first.length c2] rfl oK rfl rfl) fun w5 b=>⟨sy 8 kE,hD ?_⟩)⟩;exact hJ _ _ ⟨A2,c2,b7,cs2,jA,b.ad [2,3,4,5,6,7,8,9,10,11,0,1] [1,2,3,4,5,6,7,8,9,10,12,0]⟩
   · rintro _ w3 ⟨b7,rfl,b⟩;refine ⟨jL kE b.tl,?_⟩;refine hO 5 (oo rfl rfl (kJ (b.Gf Int 3) 0 0 rfl rfl underlying22 p9 rfl (nD _) rfl rfl ((b.Gf Int 3).ysD 11 rfl) happ) ?_);rintro _ w4 ⟨A2,c2,cs2,rfl,b⟩;have b':Bx w w4 Z G (Low R m s ++ [.box b6 64 #[V 0,sn]]) (kK R m s ++ [.l a cc first,.l A1 c1 t.2]):=b.ad [2,3,4,5,6,7,8,9,10,11] [1,2,3,4,5,6,7,8,9,10,11,12];refine ⟨jL kE b',?_⟩;refine wN 6 rfl ?_;refine dP (Ec (v:=.agg #[V t.1,.slice A2 first.length c2]) rfl (by kernel_rfl)) (jL kE b') ?_;refine hO 8 (os rfl rfl (mQ b 1 [V t.1,.slice A2 first.length c2] rfl oK rfl rfl) fun w5 b=>⟨sy 8 kE,hD ?_⟩);exact hJ _ _ ⟨A2,c2,b7,cs2,jA,b.ad [2,3,4,5,6,7,8,9,10,11,1,0] [1,2,3,4,5,6,7,8,9,10,12,0]⟩
 clear b hps;rintro f' w3 ⟨A2,c2,b7,cs2,hf,b⟩;obtain ⟨av2,rfl⟩:=lg _ _ hf;clear hf;obtain ⟨_,h',h2',_,h5',_⟩:=EA b 8 4 rfl rfl hH ht;rw [h2] at h2';cases h2';refine kr b ?_;refine gL rfl h5' rfl rfl ?_;refine kr b ?_;have hbd:=(b.dl 10 rfl).bd;have hcap:first.length+t.2.length<=1000000000:=by simpa using hcap
 refine kG (fun aw f w'=>∃ (j:Nat)(A2:OA)(c2:Nat)(cs2:LV),aw=t.2.length - j∧j≤t.2.length∧Has f [(0,Pt R.lb),(1,Pt c),(6,Pt b6),(7,Pt b7),(23,.slice A1 t.2.length c1),(24,V (t.2.length:Int)),(25,V (j:Int))]∧
     Bx w w' Z G (Low R m s ++ [.box b6 64 #[V 0,sn],.box b7 64 #[V t.1,.slice A2 (first ++ (t.2.take j).map fun p=>(pE l p).getD 0).length c2],.own w.heap.size A2 c2 3 (Rp.sz Int) cs2]) (kK R m s ++ [.l A1 c1 t.2,.els cs2 (first ++ (t.2.take j).map fun p=>(pE l p).getD 0)]))
   t.2.length ⟨0,A2,c2,cs2,rfl,uL _,jA,by rw [List.take_zero,List.map_nil,EW];exact b⟩ ?_
 clear b h5';rintro aw f w4 ⟨j,A2,c2,cs2,rfl,hj,hf,b⟩ J hJ;obtain ⟨av3,rfl⟩:=lg _ _ hf;clear hf;refine kr b ?_;refine tL rfl (fun hlt=>?_) (fun hlt=>?_)
 · obtain ⟨p,hp⟩:=lZ (l:=t.2) (k:=j) (by omega);have happ:app (first ++ (t.2.take j).map fun p=>(pE l p).getD 0) [(pE l p).getD 0]=some (first ++ (t.2.take (j+1)).map fun p=>(pE l p).getD 0):=by unfold app;rw [lF (by simp;omega),List.take_add_one,hp];simp
   refine kr b ?_;refine jJ (kR underlying168 BI rfl rfl rfl (b.dl 10 rfl) hp) (jJ (lK (cP p) underlying172 rfl BI rfl rfl (uY (b.dl 10 rfl) hp (fun _ h=>h))) ?_);refine FD b (jN BI) fun w5 b9 b=>?_;refine kV (mQ b 12 (cP p) rfl BI rfl rfl) fun w6 b=>?_;have b:Bx w w6 Z G (Low R m s ++ [.box b6 64 #[V 0,sn],.box b7 64 #[V t.1,.slice A2 (first ++ (t.2.take j).map fun p=>(pE l p).getD 0).length c2],.own w.heap.size A2 c2 3 (Rp.sz Int) cs2,.box b9 172 (cP p).toArray]) (kK R m s ++ [.l A1 c1 t.2,.els cs2 (first ++ (t.2.take j).map fun p=>(pE l p).getD 0)]):=b;refine kr b ?_;refine EM b [9,11] fun b=>?_;refine BQ b ?_;refine wN 6 rfl ?_;refine dU (fun hu=>kZ (cP p) underlying172 BI rfl (hu.bk 12 rfl)) (jL kE b) ?_;refine wN 7 rfl ?_;refine dU (fun hu=>afp (hu.at 5 rfl) hl rfl rfl) (jL kE b) ?_;refine hO 8 (oo rfl rfl (jT b [[V ((pE l p).getD 0)]] ([(pE l p).getD 0]:List Int) (WI rfl) rfl rfl ⟨rfl,trivial⟩) ?_);rintro _ w7 ⟨b12,rfl,b⟩;refine ⟨jL kE (b.ad [1,2,3,4,5,6,7,8,9,10,11,12,13] [1,2,3,4,5,6,7,8,9,10,11,12]),?_⟩;refine hO 9 (oo rfl rfl (kJ b 12 12 rfl rfl underlying22 p9 rfl (nD _) rfl rfl (b.Cj 0 0 rfl rfl) happ) ?_);rintro _ w8 ⟨A3,c3,cs3,rfl,b⟩;refine ⟨sy 9 kE,?_⟩;refine wN 10 rfl ?_;refine dP (yF rfl rfl rfl rfl) (sy 9 kE) ?_;refine hO 11 (os rfl rfl (t_n b 11 [.slice A3 (first ++ (t.2.take (j+1)).map fun p=>(pE l p).getD 0).length c3] rfl JF rfl rfl) fun w9 b=>⟨sy 9 kE,hD ?_⟩);refine kr b ?_;exact hJ (t.2.length - (j+1)) _ _ (by omega) ⟨j+1,A3,c3,cs3,rfl,by omega,⟨rfl,rfl,rfl,rfl,rfl,rfl,congrArg V (WE (by omega)),trivial⟩,b.ad [1,2,3,4,5,6,7,8,9,10,11,12] [1,2,3,4,5,6,7,8,9,10,11,12]⟩
 · obtain rfl:j=t.2.length:=by omega
   rw [List.take_length] at b;refine kr b ?_;refine uw ?_;refine kr b ?_;refine jJ (kZ [V t.1,.slice A2 (first ++ t.2.map fun p=>(pE l p).getD 0).length c2] underlying64 oK rfl (b.bk 10 rfl)) ?_;refine kV (mQ b 9 [V t.1,.slice A2 (first ++ t.2.map fun p=>(pE l p).getD 0).length c2] rfl oK rfl rfl) fun w5 b=>?_;refine kr b ?_;refine lG ?_;refine jK rfl (uS rfl underlying64 rfl oK rfl (b.bk 9 rfl)) ⟨_,s,m,A2,c2,cs2,rfl,rfl,hbs,?_⟩;exact b.ad [0,1,2,3,4,5,6,7,8,11] [11,0,1,2,3,4,5,6,7,8,9]
theorem Az {R:Rn}{i c:Nat}{a:OA}{cc:Nat}{first:List Int}:CZ R (fun m=>m.bs[i]?=some c) 142 #[Pt R.lb,Pt c,.slice a first.length cc] (yE i first) VE [.l a cc first]:=by
 refine qw fun w Z G m0 s0 q b hZ hH hB hm=>(Rv b hZ hH hB hm).mono fun e w' he=>?_;cases e with
 | returned v=>
  obtain ⟨e,s',m',A,c,cs,h1,h2,h3,h4⟩:=he;exact ⟨e,s',m',_,h1,⟨A,c,h2,rfl⟩,h3,(h4.KS hZ 9 0 rfl rfl).ad [0,1,2,3,4,5,6,7,8] [0,1,2,3,4,5,6,7,8,9,10]⟩
 | panicked ch=>exact he
 | outgrown=>exact he.elim
theorem SA:jH prog 69:=vT func69
theorem X0 {l:List yB}{s s':Lw}(h:lop l s=some (.ok () s')):∃ n bl,s'={ s with ops:=n,blocks:=bl }:=by
 unfold lop at h;split at h
 · cases h
 split at h
 · cases h
 obtain ⟨o,_,h⟩:=bs h;cases h;exact ⟨_,_,rfl⟩
theorem ZF {o:yB}{s s':Lw}{v:Int}(h:KG o s=some (.ok v s')):∃ k n bl,s'={ s with next:=k,ops:=n,blocks:=bl }:=by
 obtain ⟨q,h1,h⟩:=lbi h;cases q with
 | ok a s2=>
  obtain ⟨n,bl,rfl⟩:=X0 h1;cases h;exact ⟨_,_,_,rfl⟩
 | lim=>cases h
 | rt=>cases h
theorem UG {p:Pc}{v:Int}{s s':Lw}(h:vB p v s=some (.ok () s')):s'.labs=s.labs/\s'.pend=s.pend:=by obtain ⟨l,hl,h⟩:=bs h;obtain ⟨n,bl,rfl⟩:=X0 h;exact ⟨rfl,rfl⟩
theorem ab2 {w0 w:World}{Z G:Nat->Prop}{L:List It}{D:List Da}{κ ν:Type}{ek:κ->Value}{ev:ν->Value}{b:Nat}{l:List (κ × ν)}(h:Bx w0 w Z G L D)(i:Nat)(hi:L[i]?=some (.map ek ev b l)):Bx w0 w Z G (L.set i (.PX ek ev (some b) (some l))) D:=
 h.put i hi ((Ext.refl w).Hf _) (it':=.PX ek ev (some b) (some l)) (h.at (it:=.map ek ev b l) i hi) fun k hk=>.inl (by injection hk with hk;exact hk.symm)
theorem XB {l:List Int}{f:Nat->Int}{k:Nat}(hk:k < l.length):((List.range k).map f ++ l.drop k).set k (f k)=(List.range (k+1)).map f ++ l.drop (k+1):=by rw [List.set_append,kQ (by simp),List.range_succ,List.map_append,ES,Dg,List.length_range,Nat.sub_self,List.drop_eq_getElem_cons hk,List.set_cons_zero];rfl
theorem wG {R:Rn}{i c:Nat}{first:Int}:CZ R (fun m=>m.bs[i]?=some c) 37 #[Pt R.lb,Pt c,V first] (ou i first) VU []:=by
 refine qw fun w Z G m s q b hZ hH hB hm=>?_;obtain ⟨t,ht,hm⟩:=bs hm;dsimp only at hm;refine lq func37 rfl (uN [(0,Pt R.lb),(1,Pt c),(2,V first)] jA fun av=>?_);obtain ⟨hl1,h,h2,h3,h5,h7⟩:=EA b 8 4 rfl rfl hH ht;obtain ⟨A1,c1,rfl,hps⟩:=h7;replace b:=b.ko (d:=.l A1 c1 t.2) hps;have b:Bx w w Z G (Low R m s ++ []) (kK R m s ++ [.l A1 c1 t.2]):=b.ad [0,1,2,3,4,5,6,7,8] [1,2,3,4,5,6,7,8,9,10,0];have hbd:=(b.dl 10 rfl).bd;have hlab:∀ {u:World}{X:List It}{Y:List Da}{m':zN}{s':Lw},Bx w u Z G (Low R m' s' ++ X) (kK R m' s' ++ Y)->m'.bs[i]?=some c->s'.labs[i]?=some t->m'.lh[i]?=some [.slice A1 t.2.length c1]->yA u c 170 #[V t.1,.slice A1 t.2.length c1]:=fun hu e1 e2 e3=>by obtain ⟨_,h',h2',_,h5',_⟩:=EA hu 8 4 rfl rfl e1 e2;rw [e3] at h2';cases h2';exact h5'
 refine kr b ?_;refine EM b [] fun b=>BQ b ?_;refine wN 4 rfl (dU (fun hu=>yL rfl (hlab hu hH ht h2) rfl rfl rfl) (jL kE b) (BQ b ?_));refine hD (kr b ?_);refine tL rfl (fun h0=>?_) (fun h0=>?_)
 · rw [lF h0] at hm;cases hm;refine kr b ?_;exact aau rfl fun _=>aaC b
 rw [kQ h0] at hm;generalize hN:wr (wr (first+(t.2.length:Int))+(s.pend.length:Int))=N at hm h0 ⊢;refine kr b ?_;refine gL rfl (hlab b hH ht h2) rfl rfl (kr b ?_);refine kV (t_n b 0 [V t.1] rfl p9 rfl rfl) fun w1 b=>kr b ?_;refine kV (t_n b 0 [.bool true] rfl ti4 rfl rfl) fun w2 b=>kr b ?_;refine kV (t_n b 0 [V N] rfl p9 rfl rfl) fun w3 b=>?_;have b:Bx w w3 Z G (Low R m { s with blk:=t.1,opn:=true,next:=N } ++ []) (kK R m { s with blk:=t.1,opn:=true,next:=N } ++ [.l A1 c1 t.2]):=b;refine kr b ?_;refine EM b [12] fun b=>BQ b ?_;refine wN 8 rfl (dU (fun hu=>yL rfl (hlab hu hH ht h2) rfl rfl rfl) (jL kE b) (BQ b ?_));cases hb:ix? s.blocks t.1 with
 | none=>
   rw [hb] at hm;cases hm;exact hO 10 (xq rfl underlying48 rfl rfl (ru hb) fun u w' hw _=>prt b u w' hw)
 | some bk=>
 rw [hb] at hm;dsimp only at hm;obtain ⟨k,hk,hbk⟩:=Zi hb;obtain ⟨g1,g2,g3,hA,hkl,r,tt,hr,htt,hc,hl,hcell⟩:=TR (s:={ s with blk:=t.1,opn:=true,next:=N }) b 1 0 1 rfl rfl rfl hbk;refine wN 10 rfl (dP (yR k hA underlying48 CS rfl rfl hk hkl) (jL kE b) (BQ b ?_));refine hO 12 (os rfl rfl (acQ (o:=0) (u':=V N :: (r.hdr ++ tt)) b 1 [V N] rfl hc (fun x hx=>(g3 x hx).1) p9 rfl rfl (by simp) (by simp)) fun w4 b=>⟨sy 12 kE,hD ?_⟩);have hkn:t.1.toNat=k:=by omega
 have b:Bx w w4 Z G (Low R { m with R:=m.R.set k r,tc:=m.tc.set k tt } { s with blk:=t.1,opn:=true,next:=N,blocks:=s.blocks.set k { bk with a:=N } } ++ []) (kK R { m with R:=m.R.set k r,tc:=m.tc.set k tt } { s with blk:=t.1,opn:=true,next:=N,blocks:=s.blocks.set k { bk with a:=N } } ++ [.l A1 c1 t.2]):=by rw [Qb (s:={ s with blk:=t.1,opn:=true,next:=N }) _ _ _ g1 g2,MR (s:={ s with blk:=t.1,opn:=true,next:=N }),set_self hr,set_self htt,set_self (l:=s.blocks.map (·.c)) (by rw [zZ,hbk];rfl),set_self (l:=s.blocks.map (·.b)) (by rw [zZ,hbk];rfl)];exact b
 rw [set_self hr,set_self htt] at b;refine kr b ?_;refine o7 (abx b ekP Zl underlying87) ?_;rintro _ w5 ⟨vb,rfl,b⟩;refine kr b ?_;refine kV (t_n b 1 [.map (some vb)] rfl agy rfl rfl) fun w6 b=>?_;replace b:=ab2 b 0 rfl;rw [hkn] at hm;have b:Bx w w6 Z G (Low R { m with vb:=some vb } { s with blk:=t.1,opn:=true,next:=N,blocks:=s.blocks.set k { bk with a:=N },vals:=some [] } ++ []) (kK R { m with vb:=some vb } { s with blk:=t.1,opn:=true,next:=N,blocks:=s.blocks.set k { bk with a:=N },vals:=some [] } ++ [.l A1 c1 t.2]):=b.ad [1,2,3,4,5,0,7,8,9] [0,1,2,3,4,5,6,7,8,9,10];refine kr b ?_;refine gL rfl (hlab b hH ht h2) rfl rfl (kr b ?_);generalize hs1:({ s with blk:=t.1,opn:=true,next:=N,blocks:=s.blocks.set k { bk with a:=N },vals:=some [] }:Lw)=s1 at hm b;have e1:s1.labs=s.labs/\s1.pend=s.pend:=by subst hs1;exact ⟨rfl,rfl⟩
 have hlb:m.lh=({ m with vb:=some vb }:zN).lh:=rfl;generalize hm1:({ m with vb:=some vb }:zN)=m1 at b;have e2:m1.bs=m.bs:=by subst hm1;rfl
 have e3:m1.lh=m.lh:=by subst hm1;rfl
 clear hs1 hm1 hlb
 refine kG (fun aw f w'=>∃ (j:Nat)(m2:zN)(s2:Lw),aw=t.2.length - j∧j≤t.2.length∧Has f [(0,Pt R.lb),(1,Pt c),(2,V first),(60,.slice A1 t.2.length c1),(61,V (t.2.length:Int)),(62,V (j:Int))]∧
     Bx w w' Z G (Low R m2 s2 ++ []) (kK R m2 s2 ++ [.l A1 c1 t.2])/\(∃ x,m2.bs=m.bs ++ x)/\(s2.labs=s.labs/\s2.pend=s.pend)/\(yh (t.2.drop j) first j |>.bind fun _ s'=>some (.ok () { s' with pend:=(List.range s'.pend.length).map fun k=>wr (wr (first+(t.2.length:Int))+(k:Nat)) })) s2=some q)
   t.2.length ⟨0,m1,s1,rfl,uL _,jA,b,⟨[],by rw [e2,EW]⟩,e1,hm⟩ ?_
 clear b hm e1 e2 e3;rintro aw f w7 ⟨j,m2,s2,rfl,hj,hf,b,hbs,hk2,hm⟩ J hJ;obtain ⟨av3,rfl⟩:=lg _ _ hf;clear hf;refine kr b ?_;refine tL rfl (fun hlt=>?_) (fun hlt=>?_)
 · obtain ⟨p,hp⟩:=lZ (l:=t.2) (k:=j) (by omega);rw [mV hp,yh,ZV] at hm;refine kr b ?_;refine jJ (kR underlying168 BI rfl rfl rfl (b.dl 10 rfl) hp) (jJ (lK (cP p) underlying172 rfl BI rfl rfl (uY (b.dl 10 rfl) hp (fun _ h=>h))) (FD b (jN BI) fun w8 b8 b=>kr b ?_));refine kV (mQ b 9 (cP p) rfl BI rfl rfl) fun w9 b=>?_;have b:Bx w w9 Z G (Low R m2 s2 ++ [.box b8 172 (cP p).toArray]) (kK R m2 s2 ++ [.l A1 c1 t.2]):=b;refine kr b ?_;refine jJ (kZ (cP p) underlying172 BI rfl (b.bk 9 rfl)) (kr b ?_);refine ag7 Ib (jO SA rfl) b hZ hB kE hm fun s3 m3 w10 h0 hm hbs3 b=>?_;have hk3:=UG h0;refine kr b ?_;exact hJ (t.2.length - (j+1)) _ _ (by omega) ⟨j+1,m3,s3,rfl,by omega,⟨rfl,rfl,rfl,rfl,rfl,congrArg V (WE (by omega)),trivial⟩,lY b [] [0],lQ hbs hbs3,⟨hk3.1.trans hk2.1,hk3.2.trans hk2.2⟩,hm⟩
 · obtain rfl:j=t.2.length:=by omega
   rw [mF,yh] at hm;cases hm;refine kr b ?_;refine uw (kr b ?_);have hpl:=(b.vw 6 3 rfl rfl).bd
   refine kG (fun aw f w'=>∃ (k:Nat)(pc:LV),aw=s2.pend.length - k∧k≤s2.pend.length∧Has f [(0,Pt R.lb),(1,Pt c),(2,V first),(78,V (s2.pend.length:Int)),(79,V (k:Int))]∧
       Bx w w' Z G (Low R { m2 with pc:=pc } s2 ++ []) ((kK R m2 s2).set 3 (.els pc ((List.range k).map (fun k=>wr (wr (first+(t.2.length:Int))+(k:Nat))) ++ s2.pend.drop k)) ++ [.l A1 c1 t.2]))
     s2.pend.length ⟨0,m2.pc,rfl,uL _,jA,b⟩ ?_
   clear b;rintro aw f w8 ⟨k,pc,rfl,hk4,hf,b⟩ J2 hJ2;obtain ⟨av4,rfl⟩:=lg _ _ hf;clear hf;have hlab2:∀ {u:World}{pc':LV}{l':List Int},Bx w u Z G (Low R { m2 with pc:=pc' } s2 ++ []) ((kK R m2 s2).set 3 (.els pc' l') ++ [.l A1 c1 t.2])->∃ h',m2.lh[i]?=some h'/\yA u c 170 (V t.1 :: h').toArray/\∃ A c5,h'=[.slice A t.2.length c5]:=fun hu=>by obtain ⟨_,h',e1,_,h5',A,c5,e2,_⟩:=EA (s:=s2) (m:=m2) (t:=t) hu 8 4 rfl rfl (uK hbs hH) (by rw [hk2.1];exact ht);exact ⟨h',e1,h5',A,c5,e2⟩
   refine kr b ?_;refine tL rfl (fun hlt=>?_) (fun hlt=>?_)
   · refine kr b ?_;obtain ⟨_,hl9,_,A9,c9,rfl⟩:=hlab2 b;have hA:=KN (b.bo 6 rfl) (by rw [(b.de 3 rfl).len];simp;omega);have hpcl:pc.length=s2.pend.length:=by rw [(b.de 3 rfl).len];simp;omega
     obtain ⟨x0,hx0⟩:=lZ (l:=(List.range k).map (fun k=>wr (wr (first+(t.2.length:Int))+(k:Nat))) ++ s2.pend.drop k) (k:=k) (by simp;omega);obtain ⟨_,hq0,rfl⟩:=(b.de 3 rfl).get hx0;refine EM b [15] fun b=>BQ b ?_;refine wN 9 rfl (dU (v:=.slice A9 t.2.length c9) (fun hu=>?_) (jL kE b) ?_)
     · obtain ⟨_,e1,e2,_⟩:=hlab2 hu;rw [hl9] at e1;cases e1;exact yL rfl e2 rfl rfl rfl
     refine BQ b ?_;refine wN 14 rfl (dP (yR k hA underlying22 p9 rfl rfl rfl (by omega)) (jL kE b) (hO 15 (os rfl rfl (Nk b (α:=Int) 6 3 k 0 [V (wr (wr (first+(t.2.length:Int))+(k:Nat)))] rfl rfl hq0 p9 rfl rfl rfl rfl rfl rfl (v':=wr (wr (first+(t.2.length:Int))+(k:Nat))) rfl (XB (f:=fun k=>wr (wr (first+(t.2.length:Int))+(k:Nat))) (by omega))) fun w9 hb9=>⟨sy 15 kE,hD ?_⟩)));obtain ⟨pc2,b⟩:=hb9;refine kr b ?_;exact hJ2 (s2.pend.length - (k+1)) _ _ (by omega) ⟨k+1,pc2,rfl,by omega,⟨rfl,rfl,rfl,rfl,congrArg V (WE (by omega)),trivial⟩,b⟩
   · obtain rfl:k=s2.pend.length:=by omega
     rw [List.drop_length,EW,EW] at b;refine kr b ?_;refine uw (kr b ?_);refine nR rfl ⟨_,_,{ m2 with pc:=pc },[],rfl,⟨rfl,rfl⟩,hbs,?_⟩;have e1:((List.range s2.pend.length).map fun k=>wr (wr (first+(t.2.length:Int))+(k:Nat))).length=s2.pend.length:=by simp
     simp only [Low,kK,EF,e1,BZ];exact b.ad [0,1,2,3,4,5,6,7,8] [0,1,2,3,4,5,6,7,8,9]
theorem Cx:jH prog 142:=vT func142
theorem Jp:jH prog 149:=vT func149
theorem Fe:jH prog 37:=vT func37
theorem FN:jH prog 114:=vT func114
theorem JN:jH prog 146:=vT func146
theorem JM:jH prog 170:=vT func170
theorem XC:TI prog 65 (.agg #[V 0,sn,V 0,sn]) 4 64:=nY (by kernel_rfl)
abbrev ln:Da:=.l none 0 ([]:List Int)
theorem Ky {w0 w:World}{Z G:Nat->Prop}{X:List It}{Y:List Da}{R:Rn}{m:zN}{s:Lw}(b:Bx w0 w Z G (Low R m s ++ X) (kK R m s ++ Y)):Bx w0 w Z G (Low R m s ++ X) (kK R m s ++ (ln :: Y)):=(b.ko (d:=ln) l5.nil).Bl fun d hd=>by
 obtain hd | hd:=qg.1 hd
 · exact yO _ (List.mem_append_left _ hd)
 · obtain rfl | hd:=nM.1 hd
   · exact Ca ..
   · exact yO _ (List.mem_append_right _ hd)
theorem y3 {a b c:Da}{Y:List Da}(h1:a ∈ Y)(h2:b ∈ Y)(h3:c ∈ Y):∀ d ∈ [a,b,c],d ∈ Y:=fun d hd=>by
 obtain rfl | hd:=nM.1 hd
 · exact h1
 obtain rfl | hd:=nM.1 hd
 · exact h2
 rw [List.mem_singleton.1 hd];exact h3
theorem Gc {R:Rn}{i c:Nat}:CZ R (fun m=>m.bs[i]?=some c) 141 #[Pt R.lb,Pt c] (xL i) VU []:=by
 refine qw fun w Z G m s q b hZ hH hB hm=>?_;unfold xL at hm;refine lq func141 rfl (uN [(0,Pt R.lb),(1,Pt c)] jA fun av=>kr b ?_);by_cases h:s.opn=true
 · rw [lF h] at hm;refine jQ (congrArg Value.bool h) (kr b ?_);refine WC (Az (a:=none) (cc:=0) (first:=[])) (jO Cx rfl) (Ky b) hZ hB hH hm (fun e A ce s m w1 hm hbs b=>BN (jO JE rfl) Cg ?_) y1;rintro _ w2 ⟨rfl,hx⟩;replace b:=b.ext hx;refine jJ (Ec (v:=.agg #[V e.b,.slice A e.a.length ce,V (-1),sn]) rfl (by kernel_rfl)) (jJ (Ec (v:=.agg (cT ⟨1,0,0,[],⟨e,Je⟩⟩ none 0 A ce none 0).toArray) rfl (by kernel_rfl)) (vQ (k:=oL) Jr (jO Jp rfl) b hZ hB kE (by rw [Ee];exact hm) (fun s' m' w5 hm hbs2 b=>?_) (y3 (.tail _ (.head _)) (.head _) (.tail _ (.head _)))));cases hm;refine kr b ?_;exact nR rfl ⟨_,_,_,[],rfl,⟨rfl,rfl⟩,lQ hbs hbs2,lf0 b⟩
 · rw [kQ h] at hm;cases hm;refine jM (congrArg Value.bool (nt h)) (kr b ?_);exact nR rfl ⟨_,_,_,[],rfl,⟨rfl,rfl⟩,Qq,lf0 b⟩
abbrev cE (e:nO)(a:OA)(c:Nat):List Value:=[V e.b,.slice a e.a.length c]
theorem F7 {R:Rn}{v:Int}{yes no:nO}{a1 a2:OA}{c1 c2:Nat}:CZ R (fun _=>True) 143 #[Pt R.lb,V v,.agg (cE yes a1 c1).toArray,.agg (cE no a2 c2).toArray] (Em v yes no) VU [.l a1 c1 yes.a,.l a2 c2 no.a]:=by refine qw fun w Z G m s q b hZ _ hB hm=>lq func143 rfl (uN [(0,Pt R.lb),(1,V v),(2,.agg (cE yes a1 c1).toArray),(3,.agg (cE no a2 c2).toArray)] jA fun av=>tV (nU (FD b (rD rfl) fun w1 b6 b=>FD b (rD rfl) fun w1 b7 b=>kr b ?_)));refine jJ (kZ (cE yes a1 c1) underlying64 oK rfl (b.bk 9 rfl)) (jJ (kZ (cE no a2 c2) underlying64 oK rfl (b.bk 10 rfl)) (jJ (Ec (v:=.agg #[V yes.b,.slice a1 yes.a.length c1,V no.b,.slice a2 no.a.length c2]) rfl (by kernel_rfl)) (jJ (Ec (v:=.agg (cT ⟨2,v,0,[],⟨yes,no⟩⟩ none 0 a1 c1 a2 c2).toArray) rfl (by kernel_rfl)) (vQ (k:=oL) Jr (jO Jp rfl) (Ky b) hZ hB kE (by rw [Ee];exact hm) (fun s' m' w5 hm hbs b=>?_) (y3 (.head _) (.tail _ (.head _)) (.tail _ (.tail _ (.head _))))))));cases hm;refine kr b ?_;exact nR rfl ⟨_,_,_,[],rfl,⟨rfl,rfl⟩,hbs,lf0 b⟩
theorem PN {R:Rn}{v:Int}:CZ R (fun _=>True) 110 #[Pt R.lb,V v] (EK v) VU []:=by refine qw fun w Z G m s q b hZ _ hB hm=>lq func110 rfl (uN [(0,Pt R.lb),(1,V v)] jA fun av=>kr b ?_);refine BN (jO JE rfl) Cg ?_;rintro _ w2 ⟨rfl,hx⟩;replace b:=b.ext hx;refine BN (jO JE rfl) Cg ?_;rintro _ w3 ⟨rfl,hx⟩;replace b:=b.ext hx;refine jJ (Ec (v:=.agg #[V (-1),sn,V (-1),sn]) rfl (by kernel_rfl)) (jJ (Ec (v:=.agg (cT ⟨4,v,0,[],⟨Je,Je⟩⟩ none 0 none 0 none 0).toArray) rfl (by kernel_rfl)) (vQ (k:=oL) Jr (jO Jp rfl) (Ky b) hZ hB kE (by rw [Ee];exact hm) (fun s' m' w5 hm hbs b=>?_) (y3 (.head _) (.head _) (.head _))));cases hm;refine kr b ?_;exact nR rfl ⟨_,_,_,[],rfl,⟨rfl,rfl⟩,hbs,lf0 b⟩
theorem Tj {R:Rn}{v:Int}:CZ R (fun _=>True) 112 #[Pt R.lb,V v] (xA v) VU []:=by
 refine qw fun w Z G m s q b hZ _ hB hm=>?_;unfold xA at hm;refine lq func112 rfl (uN [(0,Pt R.lb),(1,V v)] jA fun av=>kr b ?_);refine BN (jO JE rfl) Cg ?_;rintro _ w2 ⟨rfl,hx⟩;replace b:=b.ext hx;refine BN (jO JE rfl) Cg ?_;rintro _ w3 ⟨rfl,hx⟩;replace b:=b.ext hx;refine jJ (Ec (v:=.agg #[V (-1),sn,V (-1),sn]) rfl (by kernel_rfl)) (FD b (jN XC) fun w1 b4 b=>kV (mQ b 9 [V (-1),sn,V (-1),sn] rfl XC rfl rfl) fun w4 b=>?_);have b:Bx w w4 Z G (Low R m s ++ [.box b4 65 #[V (-1),sn,V (-1),sn]]) (kK R m s ++ []):=b;refine kr b ?_;have hQ:Da.ok (.wp (.l m.cA m.cC s.ctxs) (HP m.hp m.bs s.hnd)) _ _:=b.d 5 rfl;obtain ⟨hq1,hq2⟩:=hQ.2;refine tL rfl (fun h=>?_) (fun h=>?_)
 · cases hl:s.hnd.getLast? with
   | none=>rw [List.getLast?_eq_none_iff.1 hl] at h;simp at h
   | some hd=>
   rw [hl] at hm;have hl':s.hnd[s.hnd.length - 1]?=some hd:=by rw [List.getLast?_eq_getElem?] at hl;exact hl
   obtain ⟨ch,hch,hcb⟩:=hq2 _ _ hl';have hcap:=(b.bo 7 rfl).cap;have hlen:(Df m.hp).length=s.hnd.length:=by rw [Dg,hq1]
   have hbd:s.hnd.length<=9223372036854775807:=by rw [hlen] at hcap;have:=sO hcap.1 hcap.2;simp only [maxLen] at this;omega
   refine kr b ?_;rw [Wj hbd];have ho:=b.bo 7 rfl;have hA:=KN ho (by rw [hlen];omega);refine jJ (yR (s.hnd.length - 1) hA underlying88 UM rfl rfl (by omega) (by omega)) ?_;have hcell:w4.cell? ⟨oH m.hA,qo m.hA+(s.hnd.length - 1) * 1,none⟩=some (Pt ch):=by
    have hfl:(Df m.hp).flatten=m.hp.map fun b=>Pt b:=by
     generalize m.hp=l
     induction l with
     | nil=>rfl
     | cons a l ih=>simp only [Df,List.map_cons,Bh] at ih ⊢;rw [ih];rfl
    obtain ⟨g0,hg⟩:=ho.VP (by rw [hlen];omega);rw [hg] at ho ⊢;rw [hfl] at ho;have:=ho.cell (j:=s.hnd.length - 1) (v:=Pt ch) (by rw [zZ,hch];rfl);simpa [oH,qo] using this
   refine gC rfl hcell rfl (kr b ?_);refine o7 (jT b [[V v]] ([v]:List Int) (WI rfl) rfl rfl ⟨rfl,trivial⟩) ?_;rintro _ w5 ⟨b5,rfl,b⟩;have b:Bx w w5 Z G (Low R m s ++ [.box b4 65 #[V (-1),sn,V (-1),sn]]) (kK R m s ++ [.l (some ⟨b5,0,none⟩) 1 [v]]):=(b.KS hZ 0 0 rfl rfl).ad [0,1,2,3,4,5,6,7,8,9] [1,2,3,4,5,6,7,8,9,10,0];refine WC (Az (i:=hd) (c:=ch) (first:=[v])) (jO Cx rfl) b hZ hB hcb hm (fun e A ce s m w1 hm hbs b=>jJ (Go.Fw.yR 0 underlying65 oK rfl rfl rfl (by decide)) (kV (t_n b 9 (cE e A ce) rfl oK rfl rfl) fun w6 b=>?_)) y1;have b:Bx w w6 Z G (Low R m s ++ [.box b4 65 #[V e.b,.slice A e.a.length ce,V (-1),sn]]) (kK R m s ++ [.l A ce e.a,.l (some ⟨b5,0,none⟩) 1 [v]]):=b;refine kr b ?_;refine jJ (kZ [V e.b,.slice A e.a.length ce,V (-1),sn] underlying65 XC rfl (b.bk 9 rfl)) (jJ (Ec (v:=.agg (cT ⟨1,0,0,[],⟨e,Je⟩⟩ none 0 A ce none 0).toArray) rfl (by kernel_rfl)) (vQ (k:=oL) Jr (jO Jp rfl) (Ky b) hZ hB kE (by rw [Ee];exact hm) (fun s' m' w5 hm hbs2 b=>?_) (y3 (.head _) (.tail _ (.head _)) (.head _))));cases hm;refine kr b ?_;exact lG (nR rfl ⟨_,_,_,[],rfl,⟨rfl,rfl⟩,lQ hbs hbs2,lf0 b⟩)
 · have h0:s.hnd=[]:=List.eq_nil_of_length_eq_zero (by omega);rw [h0] at hm;dsimp only [List.getLast?] at hm;refine kr b ?_;refine jJ (kZ [V (-1),sn,V (-1),sn] underlying65 XC rfl (b.bk 9 rfl)) (jJ (Ec (v:=.agg (cT ⟨5,v,0,[],⟨Je,Je⟩⟩ none 0 none 0 none 0).toArray) rfl (by kernel_rfl)) (vQ (k:=oL) Jr (jO Jp rfl) (Ky b) hZ hB kE (by rw [Ee];exact hm) (fun s' m' w5 hm hbs b=>?_) (y3 (.head _) (.head _) (.head _))));cases hm;refine kr b ?_;exact nR rfl ⟨_,_,_,[],rfl,⟨rfl,rfl⟩,hbs,lf0 b⟩
def SB (w0:World)(Z G:Nat->Prop)(R:Rn)(st:Int × List (Int × Int))(X:List It)(Y:List Da)(u:World):Prop:=∃ m s,(s.stmt,s.omap)=st/\Bx w0 u Z G (Low R m s ++ X) (kK R m s ++ Y)
section
variable {N:Fz}{ops:Array Oper}{S1 S:World->Prop}{T:List Nat}{K:KK}{n:Nat}{Lb:Array Bool}{f:Fr}{w w0:World}{Z G:Nat->Prop}{R:Rn}{st:Int × List (Int × Int)}{X:List It}{Y:List Da}{i:Nat}{d:Option Nat}{ty:TypeId}{pos:String}{af:Array Edge}{x:Operand}{v:Value}
theorem wDB {Q:Post}{i:Nat}{m:zN}{s:Lw}(b:Bx w0 w Z G (Low R m s ++ X) (kK R m s ++ Y))(T:List Nat)(k:Bx w0 w.drew Z G (Low R m s ++ X) (kK R m s ++ Y)->SB w0 Z G R (s.stmt,s.omap) X Y w.drew->nV prog N ops (fun _=>True) (SB w0 Z G R (s.stmt,s.omap) X Y) T ⟨Q.n,Q.p⟩ ops.size (Array.replicate ops.size false) f w.drew)(hm:prog.follows .mixedOrders=true:=by kernel_rfl):WP prog N (.region i ops true) Q f w:=
 OQ _ _ T hm (k b.drew ⟨m,s,rfl,b.drew⟩)
theorem dSt (h:ev f x=.pointer (some ⟨R.lb,0+17,none⟩))(hS:Cn S1 T (SB w0 Z G R st X Y) Lb w)(k:nV prog N ops S1 (SB w0 Z G R st X Y) T K n (Lb.setIfInBounds i true) (lD f d (V st.1)) w)(hT:(T.all fun t=>Tt ops 20 t i)=true:=by kernel_rfl):DS prog N ops S1 (SB w0 Z G R st X Y) T K (n+1) Lb i ⟨d,.load 3 x,ty,pos,af,none⟩ f w:=
 dU (fun ⟨m,s,hs,hu⟩=>by subst hs;exact yL h (hu.bk 0 rfl) rfl rfl rfl) hS k hT
theorem dSo (h:ev f x=.pointer (some ⟨R.lb,0+9,none⟩))(hS:Cn S1 T (SB w0 Z G R st X Y) Lb w)(k:nV prog N ops S1 (SB w0 Z G R st X Y) T K n (Lb.setIfInBounds i true) (lD f d (.map (some R.ob))) w)(hT:(T.all fun t=>Tt ops 20 t i)=true:=by kernel_rfl):DS prog N ops S1 (SB w0 Z G R st X Y) T K (n+1) Lb i ⟨d,.load 86 x,ty,pos,af,none⟩ f w:=
 dU (fun ⟨m,s,hs,hu⟩=>yL h (hu.bk 0 rfl) rfl rfl rfl) hS k hT
theorem fkI:FK prog 3 WB:=adT underlying3
theorem dSl {y:Operand}{v:Int}(h:ev f x=.map (some R.ob))(h2:ev f y=V v)(hS:Cn S1 T (SB w0 Z G R st X Y) Lb w)(k:nV prog N ops S1 (SB w0 Z G R st X Y) T K n (Lb.setIfInBounds i true) (lD f d (V ((pE st.2 v).getD 0))) w)(hT:(T.all fun t=>Tt ops 20 t i)=true:=by kernel_rfl):DS prog N ops S1 (SB w0 Z G R st X Y) T K (n+1) Lb i ⟨d,.lookup 86 x y false,ty,pos,af,none⟩ f w:=
 dU (fun ⟨m,s,hs,hu⟩=>by subst hs;exact Zk (z:=0) (ev:=Zl) (ek:=WB) (k:=v) underlying86 fkI (abC p9) (hu.mp 4 rfl) h h2) hS k hT
theorem dSk (j:Nat){t t' b o:Nat}{cs:Array Value}(h:ev f x=.pointer (some ⟨b,o,none⟩))(hj:X[j]?=some (.box b t' cs))(hi:cs[o]?=some v)(hs:scB t=true)(hS:Cn S1 T (SB w0 Z G R st X Y) Lb w)(k:nV prog N ops S1 (SB w0 Z G R st X Y) T K n (Lb.setIfInBounds i true) (lD f d v) w)(ht:Nat.blt t TY=true:=by exact rfl)(hT:(T.all fun t=>Tt ops 20 t i)=true:=by kernel_rfl):DS prog N ops S1 (SB w0 Z G R st X Y) T K (n+1) Lb i ⟨d,.load t x,ty,pos,af,none⟩ f w:=
 dU (fun ⟨m,s,_,hu⟩=>yL h (hu.bk (9+j) (by rw [EX (Nat.le_add_right 9 j)];show X[9+j - 9]?=_;rw [Nat.add_sub_cancel_left];exact hj)) hi hs ht) hS k hT
theorem oC {α β:Type}{H:zN->Prop}{g:FuncId}{args:Array Value}{mm:LM α}{Vv:zN->α->Value->List Da->Prop}{Yc:List Da}{m:zN}{s:Lw}{q:Lo β}{k:α->LM β}{oi:Oper}(hi:ops[i]?=some oi)(hg:oi.guard=none)(hc:CZ R H g args mm Vv Yc)(he:(execOp (ev f) oi).run prog w=.ok (.enter g args) w)(b:Bx w0 w Z G (Low R m s ++ X) (kK R m s ++ Y))(hZ:∀ b,G b->Z b)(hB:R.B<=w0.heap.size)(hH:H m)(hm:(mm.bind k) s=some q)(kk:∀ a s' m' v ds w',mm s=some (.ok a s')->Vv m' a v ds->k a s'=some q->(∃ t,m'.bs=m.bs ++ t)->Bx w0 w' Z G (Low R m' s' ++ X) (kK R m' s' ++ (ds ++ Y))->Cn S1 T S (Lb.setIfInBounds i true) w'/\nV prog N ops S1 S T K n (Lb.setIfInBounds i true) (lD f oi.dst v) w')(hY:∀ d ∈ Yc,d ∈ Y)(kp:∀ f ch w',Pb q ch->Bx w0 w' Z G [] []->K.p f ch w'):CG prog N ops S1 S T K n Lb f w i:=
 agL hi (by rw [hg];rfl) he (YP hc b hZ hB hH hm hY) (fun ch w' h f=>kp f ch w' h.1 h.2) fun v w' ⟨a,s',m',ds,h0,h1,h2,h3,h4⟩=>kk a s' m' v ds w' h0 h2 h1 h3 h4
theorem LB {β:Type}{m:zN}{s:Lw}{q:Lo β}{k:Nat->LM β}{oi:Oper}{fv:Nat}{stm:Int}(hi:ops[i]?=some oi)(hg:oi.guard=none)(he:(execOp (ev f) oi).run prog w=.ok (.enter 35 #[Pt R.lb,V stm]) w)(b:Bx w0 w Z G (Low R m s ++ X) (kK R m s ++ Y))(hZ:∀ b,G b->Z b)(hB:R.B<=w0.heap.size)(hm:((sM (jS fv R.src) R.src.c stm).bind k) s=some q)(kk:∀ a c s' m' w',m'.bs[a]?=some c->k a s'=some q->(s'.stmt,s'.omap)=(s.stmt,s.omap)->(∃ t,m'.bs=m.bs ++ t)->Bx w0 w' Z G (Low R m' s' ++ X) (kK R m' s' ++ Y)->Cn S1 T S (Lb.setIfInBounds i true) w'/\nV prog N ops S1 S T K n (Lb.setIfInBounds i true) (lD f oi.dst (Pt c)) w')(kp:∀ f ch w',Pb q ch->Bx w0 w' Z G [] []->K.p f ch w':=by exact fun _ _ _ h1 h2=>⟨h1,h2⟩):CG prog N ops S1 S T K n Lb f w i:=
 oC hi hg Ig he b hZ hB kE hm (fun a s' m' v ds w' h0 h1 h2 h3 h4=>by
  obtain ⟨⟨c,h5,rfl⟩,rfl⟩:=h1;refine kk a c s' m' w' h5 h2 ?_ h3 h4;obtain ⟨l,_,h0⟩:=bs h0;obtain ⟨r,_,h0⟩:=bs h0;cases r with
  | none=>cases h0
  | some ps=>cases h0;rfl) yn kp
end
theorem TU {w0 w:World}{Z G':Nat->Prop}{R0:Rn}{st:Int × List (Int × Int)}{X:List It}{Y:List Da}{G R:Prop}(e:SB w0 Z G' R0 st X Y w)(k:R) (h:SB w0 Z G' R0 st X Y w->R->G:=by
 intro e k
 repeat
  first
  | refine Ci 0 rfl ?_
  | refine Ci 1 rfl ?_
  | refine Ci 2 rfl ?_
  | refine Ci 3 rfl ?_
  | refine Ci 4 rfl ?_
  | refine Ci 5 rfl ?_
  | refine Ci 6 rfl ?_
  | refine Ci 7 rfl ?_
  | refine Ci 8 rfl ?_
  | refine Ci 9 rfl ?_
  | refine Ci 10 rfl ?_
  | refine Ci 11 rfl ?_
  | refine Ci 12 rfl ?_
  | refine Ci 13 rfl ?_
  | refine Ci 14 rfl ?_
  | refine Ci 15 rfl ?_
  | refine Ci 16 rfl ?_
  | refine Ci 17 rfl ?_
  | refine Ci 18 rfl ?_
  | refine Ci 19 rfl ?_
  | refine Ci 20 rfl ?_
  | refine Ci 21 rfl ?_
  | refine Ci 22 rfl ?_
  | refine Ci 23 rfl ?_
  first
  | refine aeH rfl (jL kE e) ?_
  | refine afj rfl (jL kE e) ?_
  | refine dNl rfl (jL kE e) ?_
  | refine dF rfl rfl (jL kE e) ?_
  | refine dSt rfl (jL kE e) ?_
  | refine dSo rfl (jL kE e) ?_
  | refine dSk 0 rfl rfl rfl rfl (jL kE e) ?_
  | refine dSk 1 rfl rfl rfl rfl (jL kE e) ?_
  | refine dN rfl rfl (jL kE e) ?_
  | refine afg rfl (jL kE e) ?_
  | refine aeJ rfl (jL kE e) ?_
  | refine aeY rfl rfl (jL kE e) ?_
  | refine afW rfl rfl (jL kE e) ?_
  | refine ae8 rfl (jL kE e) ?_
  | refine afz rfl (jL kE e) ?_
 exact k):G:=h e k
theorem Dx:jH prog 35:=vT func35
theorem Qg:jH prog 143:=vT func143
theorem y2 {a b:Da}{Y:List Da}(h1:a ∈ Y)(h2:b ∈ Y):∀ d ∈ [a,b],d ∈ Y:=fun d hd=>by
 obtain rfl | hd:=nM.1 hd
 · exact h1
 rw [List.mem_singleton.1 hd];exact h2
theorem adH {β:Type}{R:Rn}{i c:Nat}{w0 w:World}{Z G:Nat->Prop}{X:List It}{Y:List Da}{m:zN}{s:Lw}{q:Lo β}{k:nO->LM β}(b:Bx w0 w Z G (Low R m s ++ X) (kK R m s ++ Y))(hZ:∀ b,G b->Z b)(hB:R.B<=w0.heap.size)(hH:m.bs[i]?=some c)(hm:((yE i []).bind k) s=some q) :Calls prog 142 #[Pt R.lb,Pt c,sn] w (RP (fun v w'=>∃ e s' m' A cc cs,v=.agg #[V e.b,.slice A e.a.length cc]/\k e s'=some q/\(∃ t,m'.bs=m.bs ++ t)/\Bx w0 w' Z G (Low R m' s' ++ (.own w0.heap.size A cc 3 (Rp.sz Int) cs :: X)) (kK R m' s' ++ (.els cs e.a :: Y))) (fun ch w'=>Pb q ch/\Bx w0 w' Z G [] [])):=by
 obtain ⟨p,hp,hq⟩:=lbi hm;replace b:=Ky b;have hpre:Pre w (IU w0 Z (Low R m s ++ X)) (Low R m s) (kK R m s ++ [ln]):=b.pre fun d hd=>by
  refine b.da d ?_;obtain hd | hd:=qg.1 hd
  · exact List.mem_append_left _ hd
  · rw [List.mem_singleton.1 hd];exact List.mem_append_right _ (Ca ..)
 have hsz:=b.uo.size;refine (Rv (a:=none) (cc:=0) (first:=[]) (hpre.bx.wid (Z':=Zg _ (mD (Low R m s))) fun b hb=>.inl hb) (fun b hb=>.inr hb) hH (sO hB hsz) hp).mono fun e w' he=>?_;cases e with
 | returned v=>
  obtain ⟨e,s',m',A,cc,cs,rfl,hv,hbs,hk⟩:=he;have b2:=(b.Oy hZ hk).Bl (D':=kK R m' s' ++ (.els cs e.a :: Y)) fun d hd=>by
    obtain hd | hd:=qg.1 hd
    · exact List.mem_append_left _ (yO _ hd)
    · obtain rfl | hd:=nM.1 hd
      · exact List.mem_append_left _ (Ca ..)
      · exact List.mem_append_right _ (List.mem_append_right _ (yO _ hd))
  exact ⟨e,s',m',A,cc,cs,hv,hq,hbs,b2.reb 9 w0.heap.size rfl hsz⟩
 | panicked ch=>exact ⟨he.1.then hq,bno (b.Oy hZ he.2)⟩
 | outgrown=>exact he.elim
theorem SK {R:Rn}{i c:Nat}:CZ R (fun m=>m.bs[i]?=some c) 167 #[Pt R.lb,Pt c] (MX i) VE []:=by refine qw fun w Z G m0 s0 q b hZ hH hB hm=>lq func167 rfl (uN [(0,Pt R.lb),(1,Pt c)] jA fun av=>tV (nU (FD b (jN oK) fun w1 b4 b=>kr b ?_)));have b:Bx w w1 Z G (Low R m0 s0 ++ [.box b4 64 #[V 0,sn]]) (kK R m0 s0 ++ []):=b;refine sCP (jO Cx rfl) (adH b hZ hB hH hm) (fun ch w' h=>h) ?_;rintro _ w2 ⟨e,s,m,A,cc,cs,rfl,hm,hbs,b⟩;obtain ⟨args,hargs,hm⟩:=bs hm;cases hm;refine FD b (jN oK) fun w3 b5 b=>kV (mQ b 11 (cE e A cc) rfl oK rfl rfl) fun w4 b=>?_;have b:Bx w w4 Z G (Low R m s ++ [.own w.heap.size A cc 3 (Rp.sz Int) cs,.box b4 64 #[V 0,sn],.box b5 64 (cE e A cc).toArray]) (kK R m s ++ [.els cs e.a]):=b;refine kr b ?_;refine EM b [6,8] fun b=>BQ b ?_;refine hO 6 (oo rfl rfl (kJ b 9 10 rfl rfl underlying22 p9 rfl (nD _) rfl rfl (b.Cj 6 3 rfl rfl) hargs) ?_);rintro _ w5 ⟨A2,c2,cs2,rfl,b⟩;refine ⟨sy 6 kE,wN 7 rfl (dP (yF rfl rfl rfl rfl) (sy 6 kE) (hO 8 (os rfl rfl (t_n b 11 [.slice A2 args.length c2] rfl JF rfl rfl) fun w6 b=>⟨sy 6 kE,hD (kr b ?_)⟩)))⟩;refine jJ (kZ [V e.b,.slice A2 args.length c2] underlying64 oK rfl (b.bk 11 rfl)) (kV (mQ b 10 [V e.b,.slice A2 args.length c2] rfl oK rfl rfl) fun w7 b=>kr b ?_);exact lG (jK rfl (uS rfl underlying64 rfl oK rfl (b.bk 10 rfl)) ⟨_,s,m,_,rfl,⟨A2,c2,rfl,rfl⟩,hbs,(b.KS hZ 9 10 rfl rfl).ad [0,1,2,3,4,5,6,7,8] [0,1,2,3,4,5,6,7,8,9,10]⟩)
theorem OC {R:Rn}{i c:Nat}:CZ R (fun m=>m.bs[i]?=some c) 169 #[Pt R.lb,Pt c] (Ja i) VU []:=by refine qw fun w Z G m s q b hZ hH hB hm=>lq func169 rfl (uN [(0,Pt R.lb),(1,Pt c)] jA fun av=>kr b ?_);refine vQ (wG (i:=i) (c:=c)) (jO Fe rfl) b hZ hB hH hm fun s m w1 hm hbs b=>kr b ?_;refine vQ (k:=oL) Yn (jO (vT func150) rfl) b hZ hB kE (by rw [Ee];exact hm) fun s' m' w5 hm hbs2 b=>?_;cases hm;refine kr b ?_;exact nR rfl ⟨_,_,_,[],rfl,⟨rfl,rfl⟩,lQ hbs hbs2,lf0 b⟩
theorem SS {R:Rn}{i c:Nat}{n:Int}:CZ R (fun m=>m.bs[i]?=some c) 168 #[Pt R.lb,Pt c,V n] (GY i n) VU []:=by
 refine qw fun w Z G m s q b hZ hH hB hm=>?_;unfold GY at hm;refine lq func168 rfl (uN [(0,Pt R.lb),(1,Pt c),(2,V n)] jA fun av=>kr b ?_);refine kV (t_n b 0 [sn] rfl JF rfl rfl) fun w1 b=>?_;have b:Bx w w1 Z G (Low R { m with pA:=none,pC:=0,pc:=[] } { s with pend:=[] } ++ [.own R.B m.pA m.pC 3 1 m.pc]) (kK R { m with pA:=none,pC:=0,pc:=[] } { s with pend:=[] } ++ [.els m.pc s.pend]):=
  ((b.Gf Int 3).reb 0 R.B rfl hB).ad [1,2,3,4,5,6,0,8,9,7] [1,2,3,0,5,6,7,8,9,10,4]
 refine kr b ?_;refine vQ (wG (i:=i) (c:=c)) (jO Fe rfl) b hZ hB hH hm fun s1 m1 w2 hm hbs b=>kr b ?_;refine vQ Yn (jO (vT func150) rfl) b hZ hB kE hm fun s1 m1 w2 hm hbs2 b=>?_;replace hbs:=lQ hbs hbs2;refine kr b ?_;refine Q0 uO (jO FN rfl) b hZ hB kE hm fun x s1 m1 w2 hm hbs2 b=>?_;replace hbs:=lQ hbs hbs2;refine vQ Tj (jO (vT func112) rfl) b hZ hB kE hm fun s1 m1 w2 hm hbs2 b=>?_;replace hbs:=lQ hbs hbs2;cases hm;refine kr b ?_;refine kV (t_n b 0 [.slice m.pA s.pend.length m.pC] rfl JF rfl rfl) fun w3 b=>kr b ?_;exact nR rfl ⟨_,_,{ m1 with pA:=m.pA,pC:=m.pC,pc:=m.pc },[],rfl,⟨rfl,rfl⟩,hbs,b.ad [0,1,2,3,4,5,9,7,8] [0,1,2,10,4,5,6,7,8,9]⟩
theorem GZ {R:Rn}{kind:Int}:CZ R (fun _=>True) 171 #[Pt R.lb,V kind] (Cz kind) VU []:=by refine qw fun w Z G m s q b hZ _ hB hm=>lq func171 rfl (uN [(0,Pt R.lb),(1,V kind)] jA fun av=>kr b ?_);refine Q0 JD (jO JN rfl) b hZ hB kE hm fun x s m w1 hm hbs b=>kr b ?_;refine Q0 JD (jO JN rfl) b hZ hB kE hm fun y s m w1 hm hbs2 b=>?_;replace hbs:=lQ hbs hbs2;refine kr b ?_;refine jJ (Ec (v:=.agg (cO ⟨kind,0,y,x,0,0,0,0,tY⟩).toArray) rfl (by kernel_rfl)) (Q0 zY (jO Hu rfl) b hZ hB kE hm fun x s m w1 hm hbs2 b=>?_);replace hbs:=lQ hbs hbs2;refine vQ (k:=oL) Ga (jO JM rfl) b hZ hB kE (by rw [Ee];exact hm) fun s' m' w5 hm hbs2 b=>?_;cases hm;refine kr b ?_;exact nR rfl ⟨_,_,_,[],rfl,⟨rfl,rfl⟩,lQ hbs hbs2,lf0 b⟩
theorem Y0 {R:Rn}{fv:Nat}:CZ R (fun _=>True) 172 #[Pt R.lb] (Py (jS fv R.src) R.src.c) VU []:=by
 refine qw fun w Z G m s q b hZ _ hB hm=>?_;obtain ⟨p,hp,hm⟩:=lbi hm;unfold Kg at hp;refine lq func172 rfl (uN [(0,Pt R.lb)] jA fun av=>?_);have hbd:s.pend.length<=9223372036854775807:=(b.vw 6 3 rfl rfl).bd;refine kr b ?_;refine EM b [] fun b=>BQ b ?_;rw [Wj hbd];cases hl:s.pend.getLast? with
 | none=>
  rw [hl] at hp;cases hp;cases hm;have h0:s.pend=[]:=List.getLast?_eq_none_iff.1 hl;exact hO 10 (xq rfl underlying22 rfl rfl (by rw [h0];simp) fun u w' hw _=>prt b u w' hw)
 | some v=>
 rw [hl] at hp;cases hp;obtain ⟨h1,h2⟩:=YW hl;refine wN 10 rfl (dP (kR underlying22 p9 rfl rfl (by omega) (b.vw 6 3 rfl rfl) h1) (jL kE b) (wN 11 rfl (dU (v:=V v) (fun hu=>kH underlying3 rfl rfl ((uY (ds:=[V v]) (hu.vw 6 3 rfl rfl) h1 (fun _ h=>h)) 0 _ rfl)) (jL kE b) (BQ b ?_))));refine hD (kr b ?_);refine wDB b [11] fun b e=>TU e ?_;refine hO 5 (LB (fv:=fv) rfl rfl (jO Dx rfl) b hZ hB hm fun n1 c1 s1 m1 w1 hc1 hm hst hbs b=>?_);have e:SB w Z G R (s.stmt,s.omap) [] [] w1:=⟨m1,s1,hst,b⟩;refine ⟨jL kE e,?_⟩;unfold QO at hm;rw [(aaP hst).1] at hm;refine hO 11 (LB (fv:=fv) rfl rfl (jO Dx rfl) b hZ hB hm fun n2 c2 s2 m2 w2 hc2 hm hst2 hbs2 b=>?_);have e:SB w Z G R (s.stmt,s.omap) [] [] w2:=⟨m2,s2,hst2.trans hst,b⟩;have hc1:=uK hbs2 hc1;replace hbs:=lQ hbs hbs2;refine ⟨jL kE e,TU e ?_⟩;refine hD (kr b ?_);refine WC SK (jO (vT func167) rfl) b hZ hB hc1 hm (fun yes A1 k1 s3 m3 w3 hm hbs2 b=>?_);have hc1:=uK hbs2 hc1;have hc2:=uK hbs2 hc2;replace hbs:=lQ hbs hbs2;refine FD b (jN oK) fun w4 b5 b=>kV (mQ b 9 (cE yes A1 k1) rfl oK rfl rfl) fun w5 b=>?_;have b:Bx w w5 Z G (Low R m3 s3 ++ [.box b5 64 (cE yes A1 k1).toArray]) (kK R m3 s3 ++ [.l A1 k1 yes.a]):=b;refine kr b ?_;refine WC (Az (a:=none) (cc:=0) (first:=[])) (jO Cx rfl) (Ky b) hZ hB hc2 hm (fun no A2 k2 s3 m3 w3 hm hbs2 b=>?_) y1;have hc1:=uK hbs2 hc1;have hc2:=uK hbs2 hc2;replace hbs:=lQ hbs hbs2;refine FD b (jN oK) fun w4 b6 b=>kV (mQ b 10 (cE no A2 k2) rfl oK rfl rfl) fun w5 b=>?_;have b:Bx w w5 Z G (Low R m3 s3 ++ [.box b5 64 (cE yes A1 k1).toArray,.box b6 64 (cE no A2 k2).toArray]) (kK R m3 s3 ++ [.l A2 k2 no.a,ln,.l A1 k1 yes.a]):=b;refine kr b ?_
 refine jJ (kZ (cE yes A1 k1) underlying64 oK rfl (b.bk 9 rfl)) (jJ (kZ (cE no A2 k2) underlying64 oK rfl (b.bk 10 rfl)) (vQ F7 (jO Qg rfl) b hZ hB kE hm (fun s3 m3 w3 hm hbs2 b=>?_) (y2 (.tail _ (.tail _ (.head _))) (.head _))));have hc1:=uK hbs2 hc1;have hc2:=uK hbs2 hc2;replace hbs:=lQ hbs hbs2;refine kr b ?_;refine vQ SS (jO (vT func168) rfl) b hZ hB hc2 hm fun s3 m3 w3 hm hbs2 b=>?_;have hc1:=uK hbs2 hc1;replace hbs:=lQ hbs hbs2;refine kr b ?_;refine vQ (k:=oL) OC (jO (vT func169) rfl) b hZ hB hc1 (by rw [Ee];exact hm) fun s' m' w5 hm hbs2 b=>?_;cases hm;refine kr b ?_;exact nR rfl ⟨_,_,_,[],rfl,⟨rfl,rfl⟩,lQ hbs hbs2,lf0 b⟩
theorem FH:jH prog 145:=vT func145
theorem JL:jH prog 111:=vT func111
abbrev cX (e:jD)(a:OA)(c:Nat):List Value:=[V e.e,V e.d,V e.f,T e.c,T e.b,.slice a e.a.length c]
def CEx (R:Rn)(ex:jD->LM Unit):Prop:=∀ (e:jD)(a:OA)(c:Nat),CZ R (fun _=>True) 145 #[Pt R.lb,.agg (cX e a c).toArray] (ex e) VU [.l a c e.a]
def CVl (R:Rn)(ex:jD->LM Int):Prop:=∀ (e:jD)(a:OA)(c:Nat),CZ R (fun _=>True) 111 #[Pt R.lb,.agg (cX e a c).toArray] (ex e) VI [.l a c e.a]
def Ud {α β:Type}(l:List α)(k:Nat)(f:α->LM β):LM β:=match l[k]? with
 | none=>lrt
 | some x=>f x
theorem AX {α β:Type}{l:List α}{f:α->LM β}:zG l f=Ud l 0 f:=by cases l <;> rfl
theorem ZO {α β:Type}{l:List α}{f:α->LM β}:ZY l f=Ud l 1 f:=by
 cases l with
 | nil=>rfl
 | cons a l=>cases l <;> rfl
section
variable {β:Type}{R:Rn}{w0 w:World}{Z G:Nat->Prop}{X:List It}{Y:List Da}{m:zN}{s:Lw}{q:Lo β}
theorem Gh {d:Da}(b:Bx w0 w Z G (Low R m s ++ X) (d :: (kK R m s ++ Y))):Bx w0 w Z G (Low R m s ++ X) (kK R m s ++ (d :: Y)):=b.Bl fun x hd=>by
 obtain hd | hd:=qg.1 hd
 · exact yO _ (List.mem_append_left _ hd)
 · obtain rfl | hd:=nM.1 hd
   · exact Ca ..
   · exact yO _ (List.mem_append_right _ hd)
theorem afa {d:Da}(b:Bx w0 w Z G (Low R m s ++ X) (kK R m s ++ (d :: Y))):Bx w0 w Z G (Low R m s ++ X) (kK R m s ++ Y):=b.Bl fun x hd=>by
 obtain hd | hd:=qg.1 hd
 · exact List.mem_append_left _ hd
 · exact List.mem_append_right _ (yO _ hd)
theorem adL {j:Nat}{d:Da}(hj:Y[j]?=some d):(kK R m s ++ Y)[10+j]?=some d:=by rw [EX (Nat.le_add_right 10 j)];show Y[10+j - 10]?=_;rw [Nat.add_sub_cancel_left];exact hj
variable {N:Fz}{ops:Array Oper}{K:KK}{rest:List Oper}{f:Fr}{p1 p2:Nat}{d:Option Nat}{op:Op}{ty ty2 ty3:TypeId}{pos pos2 pos3:String}{af af2 af3:Array Edge}{y z:Operand}
theorem afr {α:Type}{g:FuncId}{ex:jD->LM α}{VV:zN->α->Value->List Da->Prop}{kont:α->LM β}{j k:Nat}{a:OA}{c:Nat}{l:List jD}(hE:∀ (e:jD) (a:OA) (c:Nat),CZ R (fun _=>True) g #[Pt R.lb,.agg (cX e a c).toArray] (ex e) VV [.l a c e.a])(b:Bx w0 w Z G (Low R m s ++ X) (kK R m s ++ Y))(hZ:∀ b,G b->Z b)(hB:R.B<=w0.heap.size)(hj:Y[j]?=some (.l a c l))(hm:((Ud l k ex).bind kont) s=some q)(h1:ev f y=.slice a l.length c)(h2:ev f z=V (k:Int))(he:∀ A v w',(execOp (ev (lD (lD f (some p1) A) (some p2) v)) ⟨d,op,ty3,pos3,af3,none⟩).run prog w'=.ok (.enter g #[Pt R.lb,v]) w')(kk:∀ r s' m' A v1 v ds w',VV m' r v ds->kont r s'=some q->(∃ t,m'.bs=m.bs ++ t)->Bx w0 w' Z G (Low R m' s' ++ X) (kK R m' s' ++ (ds ++ Y))->pq prog N ops K rest (lD (lD (lD f (some p1) A) (some p2) v1) d v) w')(kp:∀ f ch w',Pb q ch->Bx w0 w' Z G [] []->K.p f ch w') :pq prog N ops K (⟨some p1,.indexAddr 113 y z,ty,pos,af,none⟩ :: ⟨some p2,.load 166 (.tmp p1),ty2,pos2,af2,none⟩ :: ⟨d,op,ty3,pos3,af3,none⟩ :: rest) f w:=by
 unfold Ud at hm;cases hx:l[k]? with
 | none=>
  rw [hx] at hm;cases hm;exact YS underlying113 h1 h2 (by have:=List.getElem?_eq_none_iff.1 hx;omega) fun u w' hw=>kp _ _ _ (prt (α:=β) b u w' hw).1 (prt (α:=β) b u w' hw).2
 | some x=>
  rw [hx] at hm;obtain ⟨cs,hr,e2⟩:=b.nm (10+j) (adL hj) hx;obtain ⟨a2,c2,rfl,hd⟩:=jD.out hr;have e3:=e2.ko (d:=.l a2 c2 x.a) hd;refine jJ (kR underlying113 jZ h1 h2 rfl (b.dl (10+j) (adL hj)) hx) (jJ (lK (cX x a2 c2) underlying166 rfl jZ rfl (by simp [ev,lD,upd]) (e3.dc 1 rfl)) ?_);have e4:Bx w0 w Z G (Low R m s ++ X) (.l a2 c2 x.a :: (kK R m s ++ Y)):=e3.Bl fun d hd=>by
    obtain rfl | hd:=nM.1 hd
    · exact Ca ..
    · exact yO _ (yO _ hd)
  refine lC (hE x a2 c2) (he _ _ _) (Gh e4) hZ hB kE hm (fun r s' m' v ds w' h1 h2 h3 h4=>kk r s' m' _ _ v ds w' h1 h2 h3 (h4.Bl fun d hd=>?_)) y1 (kp _);obtain hd | hd:=qg.1 hd
  · exact List.mem_append_left _ hd
  · obtain hd | hd:=qg.1 hd
    · exact List.mem_append_right _ (List.mem_append_left _ hd)
    · exact List.mem_append_right _ (List.mem_append_right _ (yO _ hd))
theorem RO {ex:jD->LM Unit}{kont:Unit->LM β}{j k:Nat}{a:OA}{c:Nat}{l:List jD}(hE:CEx R ex)(b:Bx w0 w Z G (Low R m s ++ X) (kK R m s ++ Y))(hZ:∀ b,G b->Z b)(hB:R.B<=w0.heap.size)(hj:Y[j]?=some (.l a c l))(hm:((Ud l k ex).bind kont) s=some q)(h1:ev f y=.slice a l.length c)(h2:ev f z=V (k:Int))(he:∀ A v w',(execOp (ev (lD (lD f (some p1) A) (some p2) v)) ⟨d,op,ty3,pos3,af3,none⟩).run prog w'=.ok (.enter 145 #[Pt R.lb,v]) w')(kk:∀ s' m' A v1 w',kont () s'=some q->(∃ t,m'.bs=m.bs ++ t)->Bx w0 w' Z G (Low R m' s' ++ X) (kK R m' s' ++ Y)->pq prog N ops K rest (lD (lD (lD f (some p1) A) (some p2) v1) d (.tuple #[])) w')(kp:∀ f ch w',Pb q ch->Bx w0 w' Z G [] []->K.p f ch w':=by exact fun _ _ _ h1 h2=>⟨h1,h2⟩) :pq prog N ops K (⟨some p1,.indexAddr 113 y z,ty,pos,af,none⟩ :: ⟨some p2,.load 166 (.tmp p1),ty2,pos2,af2,none⟩ :: ⟨d,op,ty3,pos3,af3,none⟩ :: rest) f w:=
 afr hE b hZ hB hj hm h1 h2 he (fun r s' m' A v1 v ds w' h1 h2 h3 h4=>by obtain ⟨rfl,rfl⟩:=h1;exact kk s' m' A v1 w' h2 h3 h4) kp
theorem SV {ex:jD->LM Int}{kont:Int->LM β}{j k:Nat}{a:OA}{c:Nat}{l:List jD}(hE:CVl R ex)(b:Bx w0 w Z G (Low R m s ++ X) (kK R m s ++ Y))(hZ:∀ b,G b->Z b)(hB:R.B<=w0.heap.size)(hj:Y[j]?=some (.l a c l))(hm:((Ud l k ex).bind kont) s=some q)(h1:ev f y=.slice a l.length c)(h2:ev f z=V (k:Int))(he:∀ A v w',(execOp (ev (lD (lD f (some p1) A) (some p2) v)) ⟨d,op,ty3,pos3,af3,none⟩).run prog w'=.ok (.enter 111 #[Pt R.lb,v]) w')(kk:∀ r s' m' A v1 w',kont r s'=some q->(∃ t,m'.bs=m.bs ++ t)->Bx w0 w' Z G (Low R m' s' ++ X) (kK R m' s' ++ Y)->pq prog N ops K rest (lD (lD (lD f (some p1) A) (some p2) v1) d (V r)) w')(kp:∀ f ch w',Pb q ch->Bx w0 w' Z G [] []->K.p f ch w':=by exact fun _ _ _ h1 h2=>⟨h1,h2⟩) :pq prog N ops K (⟨some p1,.indexAddr 113 y z,ty,pos,af,none⟩ :: ⟨some p2,.load 166 (.tmp p1),ty2,pos2,af2,none⟩ :: ⟨d,op,ty3,pos3,af3,none⟩ :: rest) f w:=
 afr hE b hZ hB hj hm h1 h2 he (fun r s' m' A v1 v ds w' h1 h2 h3 h4=>by obtain ⟨rfl,rfl⟩:=h1;exact kk r s' m' A v1 w' h2 h3 h4) kp
end
theorem QD {R:Rn}{fv:Nat}{ex:jD->LM Unit}(hE:CEx R ex){e:jD}{a:OA}{c:Nat}:CZ R (fun _=>True) 144 #[Pt R.lb,.agg (cX e a c).toArray] (JG (jS fv R.src) R.src.c ex e) VU [.l a c e.a]:=by
 refine qw fun w Z G m s q b hZ _ hB hm=>?_;unfold JG at hm;rw [AX] at hm;refine lq func144 rfl (uN [(0,Pt R.lb),(1,.agg (cX e a c).toArray)] jA fun av=>tV (nU (FD b (rD rfl) fun w1 b3 b=>?_)));have b:Bx w w1 Z G (Low R m s ++ [.box b3 166 (cX e a c).toArray]) (kK R m s ++ [.l a c e.a]):=b;refine kr b ?_;refine RO hE b hZ hB (j:=0) rfl hm rfl rfl (fun _ _ _=>jO FH rfl) fun s m A v1 w1 hm hbs b=>?_;obtain ⟨p,hp,hm⟩:=lbi hm;unfold Kg at hp;have hbd:s.pend.length<=9223372036854775807:=(b.vw 6 3 rfl rfl).bd;refine kr b ?_;refine EM b [] fun b=>BQ b ?_;rw [Wj hbd];cases hl:s.pend.getLast? with
 | none=>
  rw [hl] at hp;cases hp;cases hm;have h0:s.pend=[]:=List.getLast?_eq_none_iff.1 hl;exact hO 10 (xq rfl underlying22 rfl rfl (by rw [h0];simp) fun u w' hw _=>prt b u w' hw)
 | some v=>
 rw [hl] at hp;cases hp;obtain ⟨h1,h2⟩:=YW hl;refine wN 10 rfl (dP (kR underlying22 p9 rfl rfl (by omega) (b.vw 6 3 rfl rfl) h1) (jL kE b) (wN 11 rfl (dU (v:=V v) (fun hu=>kH underlying3 rfl rfl ((uY (ds:=[V v]) (hu.vw 6 3 rfl rfl) h1 (fun _ h=>h)) 0 _ rfl)) (jL kE b) (BQ b ?_))));refine hD (kr b ?_);refine Q0 uO (jO FN rfl) b hZ hB kE hm fun z s m w1 hm hbs2 b=>?_;replace hbs:=lQ hbs hbs2;refine kr b ?_;refine jJ (Ec (v:=.agg (cO ⟨11,0,v,z,0,0,0,0,tY⟩).toArray) rfl (by kernel_rfl)) (Q0 zY (jO Hu rfl) b hZ hB kE hm fun below s m w1 hm hbs2 b=>?_);replace hbs:=lQ hbs hbs2;refine kr b ?_;unfold Sm at hm;cases hvs:ix? R.src.c s.f with
 | none=>
  rw [hvs] at hm;cases hm;refine EM b [17] fun b=>BQ b ?_;exact hO 10 (xq rfl underlying27 rfl rfl (ru hvs) fun u w' hw _=>prt b u w' hw)
 | some vs=>
 rw [hvs] at hm;obtain ⟨kf,hkf,hvk⟩:=Zi hvs;obtain ⟨cs0,hr0,b⟩:=b.nm 8 rfl hvk;obtain ⟨a5,c5,rfl,hv5⟩:=hr0;replace b:=Gh (Gh b |>.ko (d:=.l a5 c5 vs) hv5);refine EM b [17] fun b=>BQ b ?_;refine wN 10 rfl (dP (kR underlying27 Gj rfl rfl hkf (b.dl 8 rfl) hvk) (jL kE b) (wN 11 rfl (dU (fun hu=>kH underlying53 rfl rfl ((hu.dc 11 rfl) 0 _ rfl)) (jL kE b) (BQ b ?_))));cases hx:ix? vs e.f with
 | none=>
  rw [Option.bind_some,hx] at hm;cases hm;exact hO 14 (xq rfl underlying53 rfl rfl (ru hx) fun u w' hw _=>prt b u w' hw)
 | some x=>
 rw [Option.bind_some,hx] at hm;obtain ⟨kx,hkx,hxk⟩:=Zi hx;refine wN 14 rfl (dP (kR underlying53 vE rfl rfl hkx (b.dl 10 rfl) hxk) (jL kE b) (wN 15 rfl (dP (yF rfl rfl rfl rfl) (jL kE b) (wN 16 rfl (dU (fun hu=>yC rfl ((uY (ds:=cV x) (hu.dl 10 rfl) hxk (fun _ h=>h)) 3 _ rfl) rfl rfl) (jL kE b) (hO 17 (oC rfl rfl uO (jO FN rfl) b hZ hB kE hm (fun n s' m' v' ds w2 _ h1 hm hbs2 b=>?_) yn fun _ _ _ h1 h2=>⟨h1,h2⟩)))))));obtain ⟨rfl,rfl⟩:=h1;replace hbs:=lQ hbs hbs2;refine ⟨sy 17 kE,wN 18 rfl (dP (KY rfl) (sy 17 kE) (hD ?_))⟩;have b:Bx w w2 Z G (Low R m' s' ++ [.box b3 166 (cX e a c).toArray]) (kK R m' s' ++ [.l a c e.a]):=lY b [0] [2];refine kr b ?_;refine jJ (Ec (v:=.agg (cO ⟨12,0,n,v,0,0,0,0,tY⟩).toArray) rfl (by kernel_rfl)) (Q0 zY (jO Hu rfl) b hZ hB kE hm fun above s m w1 hm hbs2 b=>?_);replace hbs:=lQ hbs hbs2;refine kr b ?_;refine jJ (Ec (v:=.agg (cO ⟨9,0,below,above,0,0,0,0,tY⟩).toArray) rfl (by kernel_rfl)) (Q0 zY (jO Hu rfl) b hZ hB kE hm fun out s m w1 hm hbs2 b=>?_);replace hbs:=lQ hbs hbs2;refine kr b ?_;refine wDB b [11] fun b eS=>TU eS ?_;refine hO 5 (LB (fv:=fv) rfl rfl (jO Dx rfl) b hZ hB hm fun n1 c1 s1 m1 w1 hc1 hm hst hbs2 b=>?_);have eS:SB w Z G R (s.stmt,s.omap) _ _ w1:=⟨m1,s1,hst,b⟩;replace hbs:=lQ hbs hbs2;refine ⟨jL kE eS,?_⟩;unfold QO at hm;rw [(aaP hst).1] at hm;refine hO 11 (LB (fv:=fv) rfl rfl (jO Dx rfl) b hZ hB hm fun n2 c2 s2 m2 w2 hc2 hm hst2 hbs2 b=>?_);have eS:SB w Z G R (s.stmt,s.omap) _ _ w2:=⟨m2,s2,hst2.trans hst,b⟩;have hc1:=uK hbs2 hc1;replace hbs:=lQ hbs hbs2;refine ⟨jL kE eS,TU eS ?_⟩;refine hD (kr b ?_);refine WC (Az (a:=none) (cc:=0) (first:=[])) (jO Cx rfl) (Ky b) hZ hB hc2 hm (fun yes A1 k1 s3 m3 w3 hm hbs2 b=>?_) y1;have hc1:=uK hbs2 hc1;have hc2:=uK hbs2 hc2;replace hbs:=lQ hbs hbs2
 refine FD b (jN oK) fun w4 b5 b=>kV (mQ b 10 (cE yes A1 k1) rfl oK rfl rfl) fun w5 b=>?_;have b:Bx w w5 Z G (Low R m3 s3 ++ [.box b3 166 (cX e a c).toArray,.box b5 64 (cE yes A1 k1).toArray]) (kK R m3 s3 ++ [.l A1 k1 yes.a]):=b.ad [0,1,2,3,4,5,6,7,8,9,10] [0,1,2,3,4,5,6,7,8,9,10];refine kr b ?_;refine WC SK (jO (vT func167) rfl) b hZ hB hc1 hm (fun no A2 k2 s3 m3 w3 hm hbs2 b=>?_);have hc1:=uK hbs2 hc1;have hc2:=uK hbs2 hc2;replace hbs:=lQ hbs hbs2;refine FD b (jN oK) fun w4 b6 b=>kV (mQ b 11 (cE no A2 k2) rfl oK rfl rfl) fun w5 b=>?_;have b:Bx w w5 Z G (Low R m3 s3 ++ [.box b3 166 (cX e a c).toArray,.box b5 64 (cE yes A1 k1).toArray,.box b6 64 (cE no A2 k2).toArray]) (kK R m3 s3 ++ [.l A2 k2 no.a,.l A1 k1 yes.a]):=b;refine kr b ?_;refine jJ (kZ (cE yes A1 k1) underlying64 oK rfl (b.bk 10 rfl)) (jJ (kZ (cE no A2 k2) underlying64 oK rfl (b.bk 11 rfl)) (vQ F7 (jO Qg rfl) b hZ hB kE hm (fun s3 m3 w3 hm hbs2 b=>?_) (y2 (.tail _ (.head _)) (.head _))));have hc1:=uK hbs2 hc1;have hc2:=uK hbs2 hc2;replace hbs:=lQ hbs hbs2;refine kr b ?_;refine vQ SS (jO (vT func168) rfl) b hZ hB hc2 hm fun s3 m3 w3 hm hbs2 b=>?_;have hc1:=uK hbs2 hc1;replace hbs:=lQ hbs hbs2;refine kr b ?_;refine vQ (k:=oL) OC (jO (vT func169) rfl) b hZ hB hc1 (by rw [Ee];exact hm) fun s' m' w5 hm hbs2 b=>?_;cases hm;refine kr b ?_;exact nR rfl ⟨_,_,_,[],rfl,⟨rfl,rfl⟩,lQ hbs hbs2,lf0 b⟩
theorem Hl {w:World}{e:jD}{a:OA}{c:Nat}:Calls prog 108 #[.agg (cX e a c).toArray] w (rV fun v w'=>v=.agg (cP (xP e)).toArray/\Ext w w'):=by
 have b:Bx w w (fun _=>True) (mD []) [] []:=Pre.bx ⟨fun _ h=>(by cases h),fun _ h=>(by cases h),List.Pairwise.nil,fun _ h=>(by cases h)⟩;refine cf func108 rfl (tV (nU (qZ b (rD rfl) fun w1 b1 b=>qZ b (jN BI) fun w2 b2 b=>goC b ?_)));refine tL rfl (fun h=>?_) (fun h=>?_)
 · refine goC b ?_;refine jJ (Ec (v:=.agg (cP (e.f,e.d)).toArray) rfl (by kernel_rfl)) (kV (mQ b 0 (cP (e.f,e.d)) rfl BI rfl rfl) fun w3 b=>goC b ?_);refine lG (jK rfl (uS rfl underlying172 rfl BI rfl (b.bk 0 rfl)) ⟨?_,(b.ad [] []).ex⟩);unfold xP;rw [lF h]
 · refine goC b ?_;refine jJ (Ec (v:=.agg (cP (e.f,0)).toArray) rfl (by kernel_rfl)) (kV (mQ b 0 (cP (e.f,0)) rfl BI rfl rfl) fun w3 b=>goC b ?_);refine lG (jK rfl (uS rfl underlying172 rfl BI rfl (b.bk 0 rfl)) ⟨?_,(b.ad [] []).ex⟩);unfold xP;rw [kQ h]
theorem Ie {R:Rn}{fv:Nat}:∀ fu,CEx R (lexpr (jS fv R.src) R.src.c fu)
 | 0=>fun e a c=>qw fun w Z G m s q b hZ _ hB hm=>by cases hm
 | fu+1=>fun e a c=>by
  have hE:=Ie (R:=R) (fv:=fv) fu;refine qw fun w Z G m s q b hZ _ hB hm=>?_;rw [lexpr] at hm;refine lq func145 rfl ?_;refine uN [(0,Pt R.lb),(1,.agg (cX e a c).toArray)] jA fun av=>?_;refine tV (nU ?_);refine FD b (rD rfl) fun w1 b3 b=>?_;have b:Bx w w1 Z G (Low R m s ++ [.box b3 166 (cX e a c).toArray]) (kK R m s ++ [.l a c e.a]):=b;refine kr b ?_;refine tL rfl (fun h=>?_) (fun h=>?_)
  · rw [lF h] at hm;refine kr b ?_;refine Q0 uO (jO FN rfl) b hZ hB kE hm fun z s m w1 hm hbs b=>?_;refine vQ (k:=oL) Ga (jO JM rfl) b hZ hB kE (by rw [Ee];exact hm) fun s' m' w5 hm hbs2 b=>?_;cases hm;refine kr b ?_;exact nR rfl ⟨_,_,_,[],rfl,⟨rfl,rfl⟩,lQ hbs hbs2,lf0 b⟩
  rw [kQ h] at hm;refine kr b ?_;refine qQ (fun f' w'=>w'=w1/\Has f' [(0,Pt R.lb),(3,Pt b3),(5,V e.e),(42,.bool (decide (e.e=1\/e.e=2)))]) (fun J hJ=>?_) ?_
  · by_cases h1:e.e=1
    · refine jQ (bt h1) ?_;refine kr b ?_;exact hJ _ _ ⟨rfl,rfl,rfl,rfl,congrArg Value.bool (by simp [h1]),trivial⟩
    · refine jM (bf h1) ?_;refine kr b ?_;exact hJ _ _ ⟨rfl,rfl,rfl,rfl,congrArg Value.bool (by simp [h1]),trivial⟩
  rintro f' _ ⟨rfl,hf⟩;obtain ⟨av2,rfl⟩:=lg _ _ hf;clear hf;refine tL rfl (fun h2=>?_) (fun h2=>?_)
  · rw [lF h2] at hm;obtain ⟨l,hl,hm⟩:=bs hm;refine kr b ?_;refine EM b [8] fun b=>?_;refine BQ b ?_;refine wN 5 rfl ?_;refine dU (fun hu=>kZ (cX e a c) underlying166 jZ rfl (hu.bk 9 rfl)) (jL kE b) ?_;refine hO 6 (oc rfl rfl (jO (vT func108) rfl) Hl ?_);rintro _ w2 ⟨rfl,hx⟩;replace b:=b.ext hx;refine ⟨jL kE b,?_⟩;refine wN 7 rfl ?_;refine dU (fun hu=>afp (hu.at 5 rfl) hl rfl rfl) (jL kE b) ?_;refine hO 8 (oC (k:=oL) rfl rfl Ga (jO JM rfl) b hZ hB kE (by rw [Ee];exact hm) (fun _ s' m' v' ds w3 _ h1 hm hbs b=>?_) yn fun _ _ _ h1 h2=>⟨h1,h2⟩);obtain ⟨rfl,rfl⟩:=h1;cases hm;refine ⟨sy 8 kE,hD ?_⟩;refine kr b ?_;exact nR rfl ⟨_,_,_,[],rfl,⟨rfl,rfl⟩,hbs,lf0 b⟩
  rw [kQ h2] at hm;refine kr b ?_;refine tL rfl (fun h3=>?_) (fun h3=>?_)
  · rw [lF h3] at hm;refine kr b ?_;refine jJ (kZ (cX e a c) underlying166 jZ rfl (b.bk 9 rfl)) ?_;refine vQ (QD hE) (jO (vT func144) rfl) b hZ hB kE hm (fun s m w1 hm hbs b=>?_) y1;refine kr b ?_;refine wDB b [12] fun b eS=>?_;refine TU eS ?_;refine wN 10 rfl ?_;refine dSl rfl rfl (jL kE eS) ?_;refine hO 3 (oC rfl rfl JD (jO JN rfl) b hZ hB kE hm (fun x s' m' v' ds w3 h0 h1 hm hbs2 b=>?_) yn fun _ _ _ h1 h2=>⟨h1,h2⟩);obtain ⟨rfl,rfl⟩:=h1;have hk:(s'.stmt,s'.omap)=(s.stmt,s.omap):=by
      unfold Ik at h0;split at h0
      · cases h0
      · cases h0;rfl
    have eS:SB w Z G R (s.stmt,s.omap) _ _ w3:=⟨m',s',hk,b⟩;replace hbs:=lQ hbs hbs2;refine ⟨jL kE eS,?_⟩;unfold PG at hm;rw [(aaP hk).2] at hm;refine wN 11 rfl (dP (Ec (v:=.agg (cO ⟨15,0,x,0,(pE s.omap e.f).getD 0,0,0,0,tY⟩).toArray) rfl (by kernel_rfl)) (jL kE eS) (hO 12 (oC rfl rfl zY (jO Hu rfl) b hZ hB kE hm (fun x s' m' v' ds w3 h0 h1 hm hbs2 b=>?_) yn fun _ _ _ h1 h2=>⟨h1,h2⟩)));obtain ⟨rfl,rfl⟩:=h1;replace hbs:=lQ hbs hbs2;refine ⟨sy 12 kE,hO 13 (oC (k:=oL) rfl rfl Ga (jO JM rfl) b hZ hB kE (by rw [Ee];exact hm) (fun _ s' m' v' ds w3 _ h1 hm hbs2 b=>?_) yn fun _ _ _ h1 h2=>⟨h1,h2⟩)⟩;obtain ⟨rfl,rfl⟩:=h1;cases hm;refine ⟨sy 12 kE,hD (kr b ?_)⟩;exact nR rfl ⟨_,_,_,[],rfl,⟨rfl,rfl⟩,lQ hbs hbs2,lf0 b⟩
  rw [kQ h3] at hm;refine kr b ?_;refine tL rfl (fun h4=>?_) (fun h4=>?_)
  · rw [lF h4,ZV,AX] at hm;refine kr b ?_;refine Q0 uO (jO FN rfl) b hZ hB kE hm fun z s m w1 hm hbs b=>vQ Ga (jO JM rfl) b hZ hB kE hm fun s m w1 hm hbs2 b=>?_;replace hbs:=lQ hbs hbs2;refine kr b ?_;refine RO hE b hZ hB (j:=0) rfl hm rfl rfl (fun _ _ _=>jO FH rfl) fun s m A v1 w1 hm hbs2 b=>?_;replace hbs:=lQ hbs hbs2;refine kr b ?_;refine vQ (k:=oL) GZ (jO (vT func171) rfl) b hZ hB kE (by rw [Ee];exact hm) fun s' m' w5 hm hbs2 b=>?_;cases hm;refine kr b ?_;exact nR rfl ⟨_,_,_,[],rfl,⟨rfl,rfl⟩,lQ hbs hbs2,lf0 b⟩
  rw [kQ h4] at hm;refine kr b ?_;refine tL rfl (fun h5=>?_) (fun h5=>?_)
  · rw [lF h5,AX] at hm;refine kr b ?_;refine RO hE b hZ hB (j:=0) rfl hm rfl rfl (fun _ _ _=>jO FH rfl) fun s m A v1 w1 hm hbs b=>?_;rw [ZV] at hm;refine kr b ?_;refine Q0 uO (jO FN rfl) b hZ hB kE hm fun z s m w1 hm hbs2 b=>?_;replace hbs:=lQ hbs hbs2;refine vQ Ga (jO JM rfl) b hZ hB kE hm fun s m w1 hm hbs2 b=>?_;replace hbs:=lQ hbs hbs2;refine kr b ?_;refine vQ (k:=oL) GZ (jO (vT func171) rfl) b hZ hB kE (by rw [Ee];exact hm) fun s' m' w5 hm hbs2 b=>?_;cases hm;refine kr b ?_;exact nR rfl ⟨_,_,_,[],rfl,⟨rfl,rfl⟩,lQ hbs hbs2,lf0 b⟩
  rw [kQ h5,AX] at hm;refine kr b ?_;refine RO hE b hZ hB (j:=0) rfl hm rfl rfl (fun _ _ _=>jO FH rfl) fun s m A v1 w1 hm hbs b=>?_;rw [ZO] at hm;refine kr b ?_;refine RO hE b hZ hB (j:=0) rfl hm rfl rfl (fun _ _ _=>jO FH rfl) fun s m A v1 w1 hm hbs2 b=>?_;replace hbs:=lQ hbs hbs2;clear hbs2;refine sN ?_;repeat refine tV ?_
  refine qQ (fun f' w'=>w'=w1/\Has f' [(0,Pt R.lb),(3,Pt b3),(25,.bool (decide (e.e=9\/e.e=10)))]) (fun J hJ=>?_) ?_
  · by_cases h9:e.e=9
    · refine nU ?_;refine kr b ?_;rw [sP h9];refine kr b ?_;exact hJ _ _ ⟨rfl,rfl,rfl,congrArg Value.bool (by simp [h9]),trivial⟩
    · refine nU ?_;refine kr b ?_;rw [sS h9];refine kr b ?_;exact hJ _ _ ⟨rfl,rfl,rfl,congrArg Value.bool (by simp [h9]),trivial⟩
  rintro f' _ ⟨rfl,hf⟩;obtain ⟨av3,rfl⟩:=lg _ _ hf;clear hf;repeat refine tV ?_
  refine qQ (fun f' w'=>Has f' [(0,Pt R.lb),(3,Pt b3)]/\∃ s' m',(∃ t,m'.bs=m.bs ++ t)/\Bx w w' Z G (Low R m' s' ++ [.box b3 166 (cX e a c).toArray]) (kK R m' s' ++ [.l a c e.a])/\Cz (wr (wr (e.e - 6)+3)) s'=some q) (fun J hJ=>?_) ?_
  · refine tL rfl (fun hc=>?_) (fun hc=>?_)
    · rw [lF hc] at hm;refine kr b ?_;refine vQ Y0 (jO (vT func172) rfl) b hZ hB kE hm fun s' m' w5 hm hbs2 b=>kr b ?_;exact hJ _ _ ⟨jA,s',m',hbs2,b,hm⟩
    · rw [kQ hc] at hm;refine kr b ?_;exact hJ _ _ ⟨jA,s,m,Qq,b,hm⟩
  rintro f' w2 ⟨hf,s',m',hbs2,b,hm⟩;obtain ⟨av4,rfl⟩:=lg _ _ hf;clear hf;refine kr b ?_;refine vQ (k:=oL) GZ (jO (vT func171) rfl) b hZ hB kE (by rw [Ee];exact hm) fun s' m' w5 hm hbs3 b=>?_;cases hm;refine kr b ?_;exact nR rfl ⟨_,_,_,[],rfl,⟨rfl,rfl⟩,lQ hbs (lQ hbs2 hbs3),lf0 b⟩
theorem D8 {R:Rn}{fv fu:Nat}:CVl R (lvalue (jS fv R.src) R.src.c fu):=fun e a c=>by refine qw fun w Z G m s q b hZ _ hB hm=>?_;refine lq func111 rfl ?_;refine uN [(0,Pt R.lb),(1,.agg (cX e a c).toArray)] jA fun av=>?_;refine tV (nU ?_);refine FD b (rD rfl) fun w1 b3 b=>?_;have b:Bx w w1 Z G (Low R m s ++ [.box b3 166 (cX e a c).toArray]) (kK R m s ++ [.l a c e.a]):=b;refine kr b ?_;refine jJ (kZ (cX e a c) underlying166 jZ rfl (b.bk 9 rfl)) ?_;refine vQ (Ie fu e a c) (jO FH rfl) b hZ hB kE hm (fun s m w1 hm hbs b=>?_) y1;refine kr b ?_;refine Q0 (k:=oL) JD (jO JN rfl) b hZ hB kE (by rw [Ee];exact hm) fun x s m w1 hm hbs2 b=>?_;cases hm;refine kr b ?_;refine lG ?_;exact jK rfl (mI rfl) ⟨_,_,_,[],rfl,⟨rfl,rfl⟩,lQ hbs hbs2,lf0 b⟩
structure Z6 where
 a1:OA
 c1:Nat
 a2:OA
 c2:Nat
 a3:OA
 c3:Nat
 a4:OA
 c4:Nat
abbrev cS (x:jC)(a:Z6):List Value:=[V x.b,V x.g,V x.n,T x.c,T x.j,V x.m,V x.f,.slice a.a1 x.e.length a.c1,T x.k,V x.h,.slice a.a2 x.a.length a.c2,.slice a.a3 x.d.length a.c3,.slice a.a4 x.i.length a.c4]
abbrev dS (x:jC)(a:Z6):List Da:=[.l a.a1 a.c1 x.e,.l a.a2 a.c2 x.a,.l a.a3 a.c3 x.d,.l a.a4 a.c4 x.i]
theorem yy {Y:List Da}:∀ d ∈ Y,d ∈ Y:=fun _ h=>h
theorem acY {R:Rn}{w0 w:World}{Z G:Nat->Prop}{X:List It}{Y:List Da}{m:zN}{s:Lw}{base c:Nat}{A:OA}{t:TypeId}{α:Type}[Rp α]{cs:LV}{l:List α}(b:Bx w0 w Z G (.own base A c t (Rp.sz α) cs :: (Low R m s ++ X)) (.els cs l :: (kK R m s ++ Y)))(hZ:∀ b,G b->Z b):Bx w0 w Z G (Low R m s ++ X) (kK R m s ++ (.l A c l :: Y)):=Gh (b.KS hZ 0 0 rfl rfl)
theorem Uh {R:Rn}{x:jC}{a:Z6}:CZ R (fun _=>True) 105 #[Pt R.lb,.agg (cS x a).toArray] (Bw R.src.c x) VU (dS x a):=by
 refine qw fun w Z G m s q b hZ _ hB hm=>?_;unfold Bw Sm at hm;refine lq func105 rfl (uN [(0,Pt R.lb),(1,.agg (cS x a).toArray)] jA fun av=>tV (nU (FD b (rD rfl) fun w1 b3 b=>?_)));have b:Bx w w1 Z G (Low R m s ++ [.box b3 115 (cS x a).toArray]) (kK R m s ++ dS x a):=b;refine kr b ?_;cases hvs:ix? R.src.c s.f with
 | none=>
   rw [hvs] at hm;cases hm;refine EM b [16] fun b=>BQ b ?_;refine RH 9 15 (by kernel_rfl) (xq rfl underlying27 rfl rfl (ru hvs) fun u w' hw _=>?_) (oo rfl rfl (ql b (jN vE)) ?_)
   · exact prt b u w' hw
   rintro _ w4 ⟨b8,rfl,b⟩;exact ⟨jL kE b.tl,hO 9 (xq rfl underlying27 rfl rfl (ru hvs) fun u w' hw _=>prt b u w' hw)⟩
 | some vs=>
 rw [hvs] at hm;obtain ⟨kf,hkf,hvk⟩:=Zi hvs;obtain ⟨cs0,hr0,b⟩:=b.nm 8 rfl hvk;obtain ⟨a5,c5,rfl,hv5⟩:=hr0;replace b:=Gh (Gh b |>.ko (d:=.l a5 c5 vs) hv5);refine EM b [16] fun b=>BQ b ?_;refine wN 9 rfl (dP (kR underlying27 Gj rfl rfl hkf (b.dl 8 rfl) hvk) (jL kE b) (wN 10 rfl (dU (fun hu=>kH underlying53 rfl rfl ((hu.dc 11 rfl) 0 _ rfl)) (jL kE b) (BQ b ?_))));cases hx:ix? vs x.f with
 | none=>
   rw [Option.bind_some,hx] at hm;cases hm;refine RH 13 15 (by kernel_rfl) (xq rfl underlying53 rfl rfl (ru hx) fun u w' hw _=>?_) (oo rfl rfl (ql b (jN vE)) ?_)
   · exact prt b u w' hw
   rintro _ w4 ⟨b8,rfl,b⟩;exact ⟨jL kE b.tl,hO 13 (xq rfl underlying53 rfl rfl (ru hx) fun u w' hw _=>prt b u w' hw)⟩
 | some vi=>
 rw [Option.bind_some,hx] at hm;dsimp only at hm;obtain ⟨kx,hkx,hxk⟩:=Zi hx;refine wN 13 rfl (dP (kR underlying53 vE rfl rfl hkx (b.dl 10 rfl) hxk) (jL kE b) (wN 14 rfl (dU (fun hu=>lK (cV vi) underlying55 rfl vE rfl rfl (uY (hu.dl 10 rfl) hxk (fun _ h=>h))) (jL kE b) (hO 15 (oo rfl rfl (ql b (jN vE)) ?_)))));rintro _ w4 ⟨b4,rfl,b⟩;refine ⟨jL kE b.tl,hO 16 (os rfl rfl (mQ b 0 (cV vi) rfl vE rfl rfl) fun w5 b=>⟨sy 16 kE,hD ?_⟩)⟩;have b:Bx w w5 Z G (Low R m s ++ [.box b3 115 (cS x a).toArray,.box b4 55 (cV vi).toArray]) (kK R m s ++ []):=b.ad [1,2,3,4,5,6,7,8,9,10,0] [0,1,2,3,4,5,6,7,8,9];refine kr b ?_;refine tL rfl (fun h3=>?_) (fun h3=>?_)
 · rw [lF h3] at hm;unfold PG at hm;refine kr b ?_;refine wDB b [10] fun b eS=>TU eS ?_;refine wN 7 rfl (dSl rfl rfl (jL kE eS) (wN 8 rfl (dP (Ec (v:=.agg (cO ⟨17,0,0,0,(pE s.omap x.f).getD 0,0,0,0,tY⟩).toArray) rfl (by kernel_rfl)) (jL kE eS) (hO 9 (oo rfl rfl (jT b [cO ⟨17,0,0,0,(pE s.omap x.f).getD 0,0,0,0,tY⟩] ([⟨17,0,0,0,(pE s.omap x.f).getD 0,0,0,0,tY⟩]:List yB) (WJ rfl) rfl rfl ⟨rfl,trivial⟩) ?_)))));rintro _ w6 ⟨b9,rfl,b⟩;replace b:=acY b hZ;have eS:SB w Z G R (s.stmt,s.omap) [.box b3 115 (cS x a).toArray,.box b4 55 (cV vi).toArray] [] w6:=⟨m,s,rfl,afa b⟩;refine ⟨jL kE eS,hO 10 (oC (k:=oL) rfl rfl Zc (jO GU rfl) b hZ hB kE (by rw [Ee];exact hm) (fun _ s' m' v' ds w3 _ h1 hm hbs b=>?_) y1 fun _ _ _ h1 h2=>⟨h1,h2⟩)⟩;obtain ⟨rfl,rfl⟩:=h1;cases hm;refine ⟨sy 10 kE,hD (kr b ?_)⟩;exact lG (nR rfl ⟨_,_,_,[],rfl,⟨rfl,rfl⟩,hbs,lf0 b⟩)
 · rw [kQ h3] at hm;have hw:¬ 1000000 < vi.a:=fun h=>by rw [lF h] at hm;cases hm
   rw [kQ hw] at hm;refine kr b ?_
   refine kG (fun aw f w'=>∃ (j:Nat)(m2:zN)(s2:Lw),aw=vi.a.toNat - j∧j≤vi.a.toNat∧j≤9223372036854775807∧Has f [(0,Pt R.lb),(3,Pt b3),(36,V vi.a),(37,V (j:Int))]∧(∃ t,m2.bs=m.bs ++ t)∧
      Bx w w' Z G (Low R m2 s2 ++ [.box b3 115 (cS x a).toArray]) (kK R m2 s2 ++ [])/\DF x.f (vi.a.toNat - j) (j:Int) s2=some q)
     vi.a.toNat ⟨0,m,s,rfl,uL _,uL _,jA,Qq,lY b [0] [],hm⟩ ?_
   clear b hm;rintro aw f w6 ⟨j,m2,s2,rfl,hj,hj9,hf,hbs,b,hm⟩ J hJ;obtain ⟨av2,rfl⟩:=lg _ _ hf;clear hf;refine kr b ?_;refine tL rfl (fun hlt=>?_) (fun hlt=>?_)
   · obtain ⟨n,hn⟩:∃ n,vi.a.toNat - j=n+1:=⟨vi.a.toNat - j - 1,by omega⟩;rw [hn,DF] at hm;refine kr b ?_;refine wDB b [7] fun b eS=>TU eS ?_;refine wN 4 rfl (dP (Ec (v:=.agg (cP (x.f,(j:Int))).toArray) rfl (by kernel_rfl)) (jL kE eS) (TU eS ?_));refine hO 6 (oC rfl rfl uO (jO FN rfl) b hZ hB kE hm (fun c s' m' v' ds w3 h0 h1 hm hbs2 b=>?_) yn fun _ _ _ h1 h2=>⟨h1,h2⟩);obtain ⟨rfl,rfl⟩:=h1;replace hbs:=lQ hbs hbs2;have eS:SB w Z G R (s2.stmt,s2.omap) [.box b3 115 (cS x a).toArray] [] w3:=⟨m',s',by obtain ⟨k,n,bl,rfl⟩:=ZF h0;rfl,b⟩;refine ⟨jL kE eS,hO 7 (oC rfl rfl (Ib (p:=(x.f,(j:Int)))) (jO SA rfl) b hZ hB kE hm (fun _ s' m' v' ds w3 _ h1 hm hbs2 b=>?_) yn fun _ _ _ h1 h2=>⟨h1,h2⟩)⟩;obtain ⟨rfl,rfl⟩:=h1;replace hbs:=lQ hbs hbs2;refine ⟨sy 7 kE,hD (kr b ?_)⟩;exact hJ (vi.a.toNat - (j+1)) _ _ (by omega) ⟨j+1,m',s',rfl,by omega,by omega,⟨rfl,rfl,rfl,congrArg V (WE (by omega)),trivial⟩,hbs,b,by rw [show vi.a.toNat - (j+1)=n by omega];exact hm⟩
   · have hj0:vi.a.toNat - j=0:=by omega
     rw [hj0,DF] at hm;cases hm;refine kr b ?_;refine uw (kr b ?_);exact nR rfl ⟨_,_,_,[],rfl,⟨rfl,rfl⟩,hbs,lf0 b⟩
theorem Wl {R:Rn}{fv fu:Nat}{t e:jD}{a a':OA}{c c':Nat}:CZ R (fun _=>True) 106 #[Pt R.lb,.agg (cX t a c).toArray,.agg (cX e a' c').toArray] (Ez (jS fv R.src) R.src.c fu t e) VU [.l a c t.a,.l a' c' e.a]:=by
 refine qw fun w Z G m s q b hZ _ hB hm=>?_;unfold Ez at hm;refine lq func106 rfl (uN [(0,Pt R.lb),(1,.agg (cX t a c).toArray),(2,.agg (cX e a' c').toArray)] jA fun av=>tV (nU (FD b (rD rfl) fun w1 b4 b=>FD b (rD rfl) fun w2 b5 b=>?_)));have b:Bx w w2 Z G (Low R m s ++ [.box b4 166 (cX t a c).toArray,.box b5 166 (cX e a' c').toArray]) (kK R m s ++ [.l a c t.a,.l a' c' e.a]):=b;refine kr b ?_;refine tL rfl (fun h3=>?_) (fun h3=>?_)
 · rw [lF h3] at hm;refine kr b ?_;refine jJ (kZ (cX t a c) underlying166 jZ rfl (b.bk 9 rfl)) (vQ (QD (Ie fu)) (jO (vT func144) rfl) b hZ hB kE hm (fun s m w1 hm hbs b=>kr b ?_) y1);refine jJ (kZ (cX e a' c') underlying166 jZ rfl (b.bk 10 rfl)) (vQ (Ie fu e a' c') (jO FH rfl) b hZ hB kE hm (fun s m w1 hm hbs2 b=>?_) (fun d hd=>.tail _ hd));replace hbs:=lQ hbs hbs2;refine kr b ?_;refine Q0 JD (jO JN rfl) b hZ hB kE hm fun v s m w1 hm hbs2 b=>?_;replace hbs:=lQ hbs hbs2;refine kr b ?_;refine wDB b [13] fun b eS=>TU eS ?_;refine wN 10 rfl (dSl rfl rfl (jL kE eS) (hO 2 (oC rfl rfl JD (jO JN rfl) b hZ hB kE hm (fun x s' m' v' ds w3 h0 h1 hm hbs2 b=>?_) yn fun _ _ _ h1 h2=>⟨h1,h2⟩)));obtain ⟨rfl,rfl⟩:=h1;have hk:(s'.stmt,s'.omap)=(s.stmt,s.omap):=by
     unfold Ik at h0;split at h0
     · cases h0
     · cases h0;rfl
   have eS:SB w Z G R (s.stmt,s.omap) _ _ w3:=⟨m',s',hk,b⟩;replace hbs:=lQ hbs hbs2;refine ⟨jL kE eS,?_⟩;unfold PG at hm;rw [(aaP hk).2] at hm;refine wN 11 rfl (dP (Ec (v:=.agg (cO ⟨16,0,x,v,(pE s.omap t.f).getD 0,0,0,0,tY⟩).toArray) rfl (by kernel_rfl)) (jL kE eS) (hO 12 (oo rfl rfl (jT b [cO ⟨16,0,x,v,(pE s.omap t.f).getD 0,0,0,0,tY⟩] ([⟨16,0,x,v,(pE s.omap t.f).getD 0,0,0,0,tY⟩]:List yB) (WJ rfl) rfl rfl ⟨rfl,trivial⟩) ?_)));rintro _ w6 ⟨b9,rfl,b⟩;replace b:=acY b hZ;have eS:SB w Z G R (s.stmt,s.omap) _ _ w6:=⟨m',s',hk,afa b⟩;refine ⟨jL kE eS,hO 13 (oC (k:=oL) rfl rfl Zc (jO GU rfl) b hZ hB kE (by rw [Ee];exact hm) (fun _ s' m' v' ds w3 _ h1 hm hbs2 b=>?_) y1 fun _ _ _ h1 h2=>⟨h1,h2⟩)⟩;obtain ⟨rfl,rfl⟩:=h1;cases hm;refine ⟨sy 13 kE,hD (kr b ?_)⟩;exact lG (nR rfl ⟨_,_,_,[],rfl,⟨rfl,rfl⟩,lQ hbs hbs2,lf0 b⟩)
 rw [kQ h3] at hm;refine kr b ?_;refine jJ (kZ (cX e a' c') underlying166 jZ rfl (b.bk 10 rfl)) (Q0 (D8 e a' c') (jO JL rfl) b hZ hB kE hm (fun v s m w1 hm hbs b=>XV rfl (sN ?_)) (fun d hd=>.tail _ hd));repeat refine tV ?_
 refine qQ (fun f' w'=>w'=w1/\Has f' [(0,Pt R.lb),(4,Pt b4),(5,Pt b5),(7,V v),(43,.bool (decide (e.e=1\/e.e=2)))]) (fun J hJ=>?_) ?_
 · by_cases h9:e.e=1
   · refine nU ?_;refine kr b ?_;rw [sP h9];refine kr b ?_;exact hJ _ _ ⟨rfl,rfl,rfl,rfl,rfl,congrArg Value.bool (by simp [h9]),trivial⟩
   · refine nU ?_;refine kr b ?_;rw [sS h9];refine kr b ?_;exact hJ _ _ ⟨rfl,rfl,rfl,rfl,rfl,congrArg Value.bool (by simp [h9]),trivial⟩
 rintro f' _ ⟨rfl,hf⟩;obtain ⟨av3,rfl⟩:=lg _ _ hf;clear hf;repeat refine tV ?_
 refine qQ (fun f' w'=>∃ (v':Int)(s':Lw)(m':zN),Has f' [(0,Pt R.lb),(4,Pt b4),(7,V v')]/\(∃ t,m'.bs=m.bs ++ t)/\Bx w w' Z G (Low R m' s' ++ [.box b4 166 (cX t a c).toArray,.box b5 166 (cX e a' c').toArray]) (kK R m' s' ++ [.l a c t.a,.l a' c' e.a])/\vB (xP t) v' s'=some q) (fun J hJ=>?_) ?_
 · refine tL rfl (fun hc=>?_) (fun hc=>?_)
   · rw [lF hc] at hm;refine kr b ?_;refine jJ (Ec (v:=.agg (cO ⟨2,0,v,0,0,0,0,0,tY⟩).toArray) rfl (by kernel_rfl)) (Q0 zY (jO Hu rfl) b hZ hB kE hm fun v' s' m' w5 hm hbs2 b=>kr b ?_);exact hJ _ _ ⟨v',s',m',jA,hbs2,b,hm⟩
   · rw [kQ hc] at hm;refine kr b ?_;exact hJ _ _ ⟨v,s,m,jA,Qq,b,hm⟩
 rintro f' w2 ⟨v',s',m',hf,hbs2,b,hm⟩;obtain ⟨av4,rfl⟩:=lg _ _ hf;clear hf;refine kr b ?_;refine jJ (kZ (cX t a c) underlying166 jZ rfl (b.bk 9 rfl)) (BN (jO (vT func108) rfl) Hl ?_);rintro _ w3 ⟨rfl,hx⟩;replace b:=b.ext hx;refine kr b ?_;refine vQ (k:=oL) Ib (jO SA rfl) b hZ hB kE (by rw [Ee];exact hm) fun s' m' w5 hm hbs3 b=>?_;cases hm;refine kr b ?_;exact nR rfl ⟨_,_,_,[],rfl,⟨rfl,rfl⟩,lQ hbs (lQ hbs2 hbs3),lf0 b⟩
theorem Oc:jH prog 38:=vT func38
theorem Jy:jH prog 141:=vT func141
def CSt (R:Rn)(st:jC->LM Unit):Prop:=∀ (x:jC)(a:Z6),CZ R (fun _=>True) 70 #[Pt R.lb,.agg (cS x a).toArray] (st x) VU (dS x a)
theorem Gd {R:Rn}{st:jC->LM Unit}(hS:CSt R st){l:List jC}{a:OA}{c:Nat}:CZ R (fun _=>True) 38 #[Pt R.lb,.slice a l.length c] (rA st l) VU [.l a c l]:=by
 refine qw fun w Z G m s q b hZ _ hB hm=>lq func38 rfl (uN [(0,Pt R.lb),(1,.slice a l.length c)] jA fun av=>kr b ?_);have hbd:=(b.dl 10 rfl).bd
 refine kG (fun aw f w'=>∃ (j:Nat)(m2:zN)(s2:Lw),aw=l.length - j∧j≤l.length∧Has f [(0,Pt R.lb),(6,.slice a l.length c),(7,V (l.length:Int)),(8,V (j:Int))]∧(∃ t,m2.bs=m.bs ++ t)∧
     Bx w w' Z G (Low R m2 s2 ++ []) (kK R m2 s2 ++ [.l a c l])/\rA st (l.drop j) s2=some q)
   l.length ⟨0,m,s,rfl,uL _,jA,Qq,b,hm⟩ ?_
 clear b hm;rintro aw f w6 ⟨j,m2,s2,rfl,hj,hf,hbs,b,hm⟩ J hJ;obtain ⟨av2,rfl⟩:=lg _ _ hf;clear hf;refine kr b ?_;refine tL rfl (fun hlt=>?_) (fun hlt=>?_)
 · obtain ⟨x,hx⟩:=lZ (l:=l) (k:=j) (by omega);rw [mV hx,rA] at hm;dsimp only at hm;obtain ⟨cs,hr,e2⟩:=b.nm 10 rfl hx;obtain ⟨a1,c1,a2,c2,a3,c3,a4,c4,rfl,k1,k2,k3,k4⟩:=jC.out hr;replace b:=((((Gh e2).ko (d:=.l a4 c4 x.i) k4).ko (d:=.l a3 c3 x.d) k3).ko (d:=.l a2 c2 x.a) k2).ko (d:=.l a1 c1 x.e) k1;generalize hA:(⟨a1,c1,a2,c2,a3,c3,a4,c4⟩:Z6)=A;have b:Bx w w6 Z G (Low R m2 s2 ++ []) (kK R m2 s2 ++ (.at (oH a) (qo a+j * Rp.sz jC) (cS x A) :: (dS x A ++ [.l a c l]))):=by subst hA;exact b.ad [0,1,2,3,4,5,6,7,8] [4,5,6,7,8,9,10,11,12,13,14,0,1,2,3,15]
   refine kr b ?_;refine jJ (kR underlying59 jY rfl rfl rfl (b.dl 15 rfl) hx) (jJ (lK (cS x A) underlying115 rfl jY rfl rfl (b.dc 10 rfl)) (FD b (jN jY) fun w7 b5 b=>kV (mQ b 9 (cS x A) rfl jY rfl rfl) fun w8 b=>?_));have b:Bx w w8 Z G (Low R m2 s2 ++ [.box b5 115 (cS x A).toArray]) (kK R m2 s2 ++ (dS x A ++ [.l a c l])):=b.ad [0,1,2,3,4,5,6,7,8,9] [0,1,2,3,4,5,6,7,8,9,11,12,13,14,15];refine kr b ?_;by_cases h:s2.opn=true
   · rw [lF h] at hm;refine jM (congrArg (fun b=>Value.bool (!b)) h) (kr b ?_);refine jJ (kZ (cS x A) underlying115 jY rfl (b.bk 9 rfl)) (vQ (hS x A) (jO (vT func70) rfl) b hZ hB kE hm (fun s3 m3 w9 hm hbs2 b=>kr b ?_) (fun d hd=>List.mem_append_left _ hd));exact hJ (l.length - (j+1)) _ _ (by omega) ⟨j+1,m3,s3,rfl,by omega,⟨rfl,rfl,rfl,congrArg V (WE (by omega)),trivial⟩,lQ hbs hbs2,lY b [] [4],hm⟩
   · rw [kQ h] at hm;cases hm;exact jQ (congrArg (fun b=>Value.bool (!b)) (nt h)) (lG (nR rfl ⟨_,_,_,[],rfl,⟨rfl,rfl⟩,hbs,lf0 b⟩))
 · obtain rfl:j=l.length:=by omega
   rw [mF,rA] at hm;cases hm;refine kr b ?_;refine uw (kr b ?_);exact nR rfl ⟨_,_,_,[],rfl,⟨rfl,rfl⟩,hbs,lf0 b⟩
theorem OD {R:Rn}{i c:Nat}:CZ R (fun m=>m.bs[i]?=some c) 151 #[Pt R.lb,Pt c] (xW i) VU []:=by
 refine qw fun w Z G m s q b hZ hH hB hm=>?_;obtain ⟨t,ht,hm⟩:=bs hm;refine lq func151 rfl (uN [(0,Pt R.lb),(1,Pt c)] jA fun av=>?_);obtain ⟨_,h,h2,h3,h5,h7⟩:=EA b 8 4 rfl rfl hH ht;refine kr b ?_;refine gL rfl h5 rfl rfl (kr b ?_);refine tL rfl (fun h0=>?_) (fun h0=>?_)
 · rw [lF h0] at hm;refine kr b ?_;refine vQ (k:=oL) (wG (i:=i) (c:=c)) (jO Fe rfl) b hZ hB hH (by rw [Ee];exact hm) fun s m w1 hm hbs b=>?_;cases hm;refine kr b ?_;exact nR rfl ⟨_,_,_,[],rfl,⟨rfl,rfl⟩,hbs,lf0 b⟩
 · rw [kQ h0] at hm;cases hm;refine kr b ?_;exact nR rfl ⟨_,_,_,[],rfl,⟨rfl,rfl⟩,Qq,lf0 b⟩
theorem acB {w0 w:World}{Z G:Nat->Prop}{L:List It}{D:List Da}{R:Rn}{m:zN}{s:Lw}{hd:Nat}(b:Bx w0 w Z G L D)(i j:Nat)(hi:L[i]?=some (.own R.B m.hA m.hC 111 1 (Df m.hp)))(hj:D[j]?=some (.wp (.l m.cA m.cC s.ctxs) (HP m.hp m.bs s.hnd)))(hl:s.hnd.getLast?=some hd) :s.hnd.length<=9223372036854775807/\0 < s.hnd.length/\m.hA=some ⟨oH m.hA,qo m.hA,none⟩/\∃ ch,m.bs[hd]?=some ch/\w.cell? ⟨oH m.hA,qo m.hA+(s.hnd.length - 1) * 1,none⟩=some (Pt ch):=by
 have hQ:Da.ok (.wp (.l m.cA m.cC s.ctxs) (HP m.hp m.bs s.hnd)) _ _:=b.d j hj;obtain ⟨hq1,hq2⟩:=hQ.2;have hl':s.hnd[s.hnd.length - 1]?=some hd:=by rw [List.getLast?_eq_getElem?] at hl;exact hl
 have hpos:=ku hl';obtain ⟨ch,hch,hcb⟩:=hq2 _ _ hl';have ho:=b.bo i hi;have hlen:(Df m.hp).length=s.hnd.length:=by rw [Dg,hq1]
 have hcap:=ho.cap;refine ⟨by rw [hlen] at hcap;have:=sO hcap.1 hcap.2;simp only [maxLen] at this;omega,by omega,KN ho (by rw [hlen];omega),ch,hcb,?_⟩;have hfl:(Df m.hp).flatten=m.hp.map fun b=>Pt b:=by
  generalize m.hp=l
  induction l with
  | nil=>rfl
  | cons a l ih=>simp only [Df,List.map_cons,Bh] at ih ⊢;rw [ih];rfl
 obtain ⟨g0,hg⟩:=ho.VP (by rw [hlen];omega);rw [hg] at ho ⊢;rw [hfl] at ho;have:=ho.cell (j:=s.hnd.length - 1) (v:=Pt ch) (by rw [zZ,hch];rfl);simpa [oH,qo] using this
theorem Vs {R:Rn}{fv fu:Nat}{x:jC}{a:Z6}:CZ R (fun _=>True) 107 #[Pt R.lb,.agg (cS x a).toArray] (FQ (jS fv R.src) R.src.c fu x) VU (dS x a):=by
 refine qw fun w Z G m s q b hZ _ hB hm=>?_;unfold FQ at hm;refine lq func107 rfl (uN [(0,Pt R.lb),(1,.agg (cS x a).toArray)] jA fun av=>tV (nU (FD b (rD rfl) fun w1 b3 b=>?_)));have b:Bx w w1 Z G (Low R m s ++ [.box b3 115 (cS x a).toArray]) (kK R m s ++ dS x a):=b;have hbd:=(b.dl 11 rfl).bd;refine kr b ?_;generalize hK:(fun (_:Unit) (s:Lw)=>(sM (jS fv R.src) R.src.c x.n |>.bind fun next=>yE next [] |>.bind fun e=>Fy fun h=>lend ⟨3,0,x.h,s.pend,⟨e,h⟩⟩ |>.bind fun _=>ou next 1 |>.bind fun _=>Tn) { s with pend:=[] })=kont at hm
 refine kG (fun aw f w'=>∃ (j:Nat)(m2:zN)(s2:Lw),aw=x.a.length - j∧j≤x.a.length∧Has f [(0,Pt R.lb),(3,Pt b3),(10,.slice a.a2 x.a.length a.c2),(11,V (x.a.length:Int)),(12,V (j:Int))]∧(∃ t,m2.bs=m.bs ++ t)∧
     Bx w w' Z G (Low R m2 s2 ++ [.box b3 115 (cS x a).toArray]) (kK R m2 s2 ++ dS x a)/\(He (jS fv R.src) R.src.c fu (x.a.drop j) |>.bind kont) s2=some q)
   x.a.length ⟨0,m,s,rfl,uL _,jA,Qq,b,hm⟩ ?_
 clear b hm;rintro aw f w6 ⟨j,m2,s2,rfl,hj,hf,hbs,b,hm⟩ J hJ;obtain ⟨av2,rfl⟩:=lg _ _ hf;clear hf;refine kr b ?_;refine tL rfl (fun hlt=>?_) (fun hlt=>?_)
 · obtain ⟨y,hy⟩:=lZ (l:=x.a) (k:=j) (by omega);rw [mV hy,He,ZV] at hm;obtain ⟨cs,hr,e2⟩:=b.nm 11 rfl hy;obtain ⟨a2,c2,rfl,hd⟩:=jD.out hr;replace b:=Gh (Gh e2 |>.ko (d:=.l a2 c2 y.a) hd);refine kr b ?_;refine jJ (kR underlying113 jZ rfl rfl rfl (b.dl 13 rfl) hy) (jJ (lK (cX y a2 c2) underlying166 rfl jZ rfl rfl (b.dc 11 rfl)) (FD b (jN jZ) fun w7 b5 b=>kV (mQ b 10 (cX y a2 c2) rfl jZ rfl rfl) fun w8 b=>?_));have b:Bx w w8 Z G (Low R m2 s2 ++ [.box b3 115 (cS x a).toArray,.box b5 166 (cX y a2 c2).toArray]) (kK R m2 s2 ++ (.l a2 c2 y.a :: dS x a)):=b.ad [0,1,2,3,4,5,6,7,8,9,10] [0,1,2,3,4,5,6,7,8,9,10,12,13,14,15];refine kr b ?_;refine jJ (kZ (cX y a2 c2) underlying166 jZ rfl (b.bk 10 rfl)) (vQ (Ie fu y a2 c2) (jO FH rfl) b hZ hB kE hm (fun s3 m3 w9 hm hbs2 b=>kr b ?_) y1);exact hJ (x.a.length - (j+1)) _ _ (by omega) ⟨j+1,m3,s3,rfl,by omega,⟨rfl,rfl,rfl,rfl,congrArg V (WE (by omega)),trivial⟩,lQ hbs hbs2,lY b [0] [1,2,3,4],hm⟩
 obtain rfl:j=x.a.length:=by omega
 rw [mF,He] at hm;subst hK;replace hm:(sM (jS fv R.src) R.src.c x.n |>.bind fun next=>yE next [] |>.bind fun e=>Fy fun h=>lend ⟨3,0,x.h,s2.pend,⟨e,h⟩⟩ |>.bind fun _=>ou next 1 |>.bind fun _=>Tn) { s2 with pend:=[] }=some q:=hm;refine kr b ?_;refine uw (kr b ?_);refine EM b [8] fun b=>BQ b ?_;refine wN 6 rfl (dP (Ec (v:=.agg #[V 3,V 0,V x.h,.slice m2.pA s2.pend.length m2.pC,V 0,sn,V 0,sn]) rfl (by kernel_rfl)) (jL kE b) (hO 7 (oo rfl rfl (ql b (jN JO)) ?_)));rintro _ w7 ⟨b6,rfl,b⟩;refine ⟨jL kE b.tl,hO 8 (os rfl rfl (mQ b 0 [V 3,V 0,V x.h,.slice m2.pA s2.pend.length m2.pC,V 0,sn,V 0,sn] rfl JO rfl rfl) fun w8 b=>⟨sy 8 kE,hD (kr b ?_)⟩)⟩;refine kV (t_n b 1 [sn] rfl JF rfl rfl) fun w9 b=>?_;replace b:=((b.Gf Int 3).reb 0 R.B rfl hB).KS hZ 8 4 rfl rfl;have b:Bx w w9 Z G (Low R { m2 with pA:=none,pC:=0,pc:=[] } { s2 with pend:=[] } ++ [.box b3 115 (cS x a).toArray,.box b6 67 #[V 3,V 0,V x.h,.slice m2.pA s2.pend.length m2.pC,V 0,sn,V 0,sn]]) (kK R { m2 with pA:=none,pC:=0,pc:=[] } { s2 with pend:=[] } ++ (.l m2.pA m2.pC s2.pend :: dS x a)):=
   b.ad [2,3,4,5,6,7,0,8,9,10,1] [2,3,4,1,5,6,7,8,9,10,0,11,12,13,14]
 generalize m2.pA=pA at b hm ⊢;generalize m2.pC=pC at b hm ⊢;generalize s2.pend=pend at b hm ⊢;refine kr b ?_;refine lCl Ig (jO Dx rfl) b hZ hB kE hm fun nx c7 s3 m3 w10 hc7 hm hbs2 b=>?_;replace hbs:=lQ hbs hbs2;refine kr b ?_;refine WC (Az (a:=none) (cc:=0) (first:=[])) (jO Cx rfl) (Ky b) hZ hB hc7 hm (fun e A1 k1 s3 m3 w3 hm hbs2 b=>?_) y1;have hc7:=uK hbs2 hc7;replace hbs:=lQ hbs hbs2;refine BN (jO JE rfl) Cg ?_;rintro _ w4 ⟨rfl,hx⟩;replace b:=b.ext hx;refine jJ (Ec (v:=.agg #[V e.b,.slice A1 e.a.length k1,V (-1),sn]) rfl (by kernel_rfl)) (kr b ?_);refine kV (t_n b 10 [V e.b,.slice A1 e.a.length k1,V (-1),sn] rfl XC rfl rfl) fun w5 b=>?_;have b:Bx w w5 Z G (Low R m3 s3 ++ [.box b3 115 (cS x a).toArray,.box b6 67 (cT ⟨3,0,x.h,pend,⟨e,Je⟩⟩ pA pC A1 k1 none 0).toArray]) (kK R m3 s3 ++ (.l A1 k1 e.a :: ln :: .l pA pC pend :: dS x a)):=b;refine kr b ?_;unfold Fy at hm;refine qQ (fun f' w'=>∃ (h:nO)(A2:OA)(k2:Nat)(s4:Lw)(m4:zN),Has f' [(0,Pt R.lb),(6,Pt b6),(7,Pt c7)]/\(∃ t,m4.bs=m3.bs ++ t)/\Bx w w' Z G (Low R m4 s4 ++ [.box b6 67 (cT ⟨3,0,x.h,pend,⟨e,h⟩⟩ pA pC A1 k1 A2 k2).toArray]) (kK R m4 s4 ++ [.l A2 k2 h.a,.l A1 k1 e.a,.l pA pC pend])/\(lend ⟨3,0,x.h,pend,⟨e,h⟩⟩ |>.bind fun _=>ou nx 1 |>.bind fun _=>Tn) s4=some q) (fun J hJ=>?_) ?_
 · refine tL rfl (fun h=>?_) (fun h=>?_)
   · cases hl:s3.hnd.getLast? with
     | none=>rw [List.getLast?_eq_none_iff.1 hl] at h;simp at h
     | some hd=>
     rw [hl] at hm;obtain ⟨hbd2,hpos,hA,ch,hcb,hcell⟩:=acB (s:=s3) b 7 5 rfl rfl hl;refine kr b ?_;rw [Wj hbd2];refine jJ (yR (s3.hnd.length - 1) hA underlying88 UM rfl rfl (by omega) (by omega)) (gC rfl hcell rfl (kr b ?_));refine WC (Az (i:=hd) (c:=ch) (a:=none) (cc:=0) (first:=[])) (jO Cx rfl) (Ky b) hZ hB hcb hm (fun h A2 k2 s4 m4 w6 hm hbs3 b=>kr b ?_) y1;refine jJ (Go.Fw.yR 1 underlying65 oK rfl rfl rfl (by decide)) (kV (t_n b 10 (cE h A2 k2) rfl oK rfl rfl) fun w7 b=>kr b ?_);exact hJ _ _ ⟨h,A2,k2,s4,m4,jA,hbs3,b.ad [0,1,2,3,4,5,6,7,8,10] [0,1,2,3,4,5,6,7,8,9,10,12,14],hm⟩
   · have h0:s3.hnd=[]:=List.eq_nil_of_length_eq_zero (by omega);rw [h0] at hm;dsimp only [List.getLast?] at hm;refine kr b ?_;exact hJ _ _ ⟨Je,none,0,s3,m3,jA,Qq,lY b [1] [1,0,2],hm⟩
 rintro f' w6 ⟨h,A2,k2,s4,m4,hf,hbs3,b,hm⟩;obtain ⟨av4,rfl⟩:=lg _ _ hf;clear hf;have hc7:=uK hbs3 hc7;replace hbs:=lQ hbs hbs3;refine kr b ?_;refine jJ (kZ (cT ⟨3,0,x.h,pend,⟨e,h⟩⟩ pA pC A1 k1 A2 k2) underlying67 JO rfl (b.bk 9 rfl)) (vQ Jr (jO Jp rfl) b hZ hB kE hm (fun s5 m5 w7 hm hbs2 b=>?_) (y3 (.tail _ (.tail _ (.head _))) (.tail _ (.head _)) (.head _)));have hc7:=uK hbs2 hc7;replace hbs:=lQ hbs hbs2;refine kr b ?_;refine vQ (wG (i:=nx) (c:=c7)) (jO Fe rfl) b hZ hB hc7 hm fun s5 m5 w7 hm hbs2 b=>?_;replace hbs:=lQ hbs hbs2;refine kr b ?_;refine vQ (k:=oL) Yn (jO (vT func150) rfl) b hZ hB kE (by rw [Ee];exact hm) fun s' m' w5 hm hbs2 b=>?_;cases hm;refine kr b ?_;exact nR rfl ⟨_,_,_,[],rfl,⟨rfl,rfl⟩,lQ hbs hbs2,lf0 b⟩
end Go.Proofs.YtdkneekpdecjbaaGreat
