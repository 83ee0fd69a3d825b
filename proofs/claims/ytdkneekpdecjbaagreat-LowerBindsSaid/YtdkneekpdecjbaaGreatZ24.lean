/- Any statement. -/
import Derived.Test.YtdkneekpdecjbaaGreatZ23
import Derived.Test.YtdkneekpdecjbaaGreatZ5
import Derived.Test.YtdkneekpdecjbaaGreatLa
import Derived.Test.YtdkneekpdecjbaaGreatZ18
set_option linter.unusedVariables false
set_option maxRecDepth 4000
set_option maxHeartbeats 12800000
namespace Go.Proofs.YtdkneekpdecjbaaGreat
open Go.RowKit Go.Fw Go.Proofs.Tryz
theorem Ud {R:Rn}{w0 w:World}{Z G:Nat->Prop}{X:List It}{Y:List Da}{m:zx}{s:Lw}{j k:Nat}{l:List jB}{y:jB}{a:Option Addr}{c:Nat}(b:Bx w0 w Z G (Low R m s ++ X) (kQ R m s ++ Y))(hj:Y[j]?=some (.l a c l))(hy:l[k]?=some y) :∃ a2 c2,Bx w0 w Z G (Low R m s ++ X) (kQ R m s ++ (.l a2 c2 y.a :: .at (mU a) (nS a+k * Rp.sz jB) (cX y a2 c2) :: Y)):=by obtain ⟨cs,hr,e2⟩:=b.nm (10+j) (aa0 hj) hy;obtain ⟨a2,c2,rfl,hd⟩:=jB.out hr;exact ⟨a2,c2,FI (FI e2 |>.jX (d:=.l a2 c2 y.a) hd)⟩
theorem TY {R:Rn}{fv:Nat}:∀ fu,CSt R (xY (jI fv R.src) R.src.c fu)
 | 0=>fun x a=>qh fun w Z G m s q b hZ _ hB hm=>by cases hm
 | fu+1=>fun x a=>by
  have ih:=TY (R:=R) (fv:=fv) fu;refine qh fun w Z G m s q b hZ _ hB hm=>?_;rw [xY] at hm;dsimp only at hm;refine lq func70 rfl ?_;refine lK [(0,Pt R.lb),(1,.agg (cS x a).toArray)] ⟨rfl,rfl,trivial⟩ fun av=>?_;refine GV (yj ?_);refine EG b (uZ rfl) fun w1 b3 b=>?_;refine jY b ?_;refine lg (t_n b 0 [V x.n] rfl oW rfl rfl) fun w2 b=>?_;have b:Bx w w2 Z G (Low R m { s with stmt:=x.n } ++ [.box b3 115 (cS x a).toArray]) (kQ R m { s with stmt:=x.n } ++ dS x a):=b;generalize ({ s with stmt:=x.n }:Lw)=s at b hm;refine jY b ?_;refine sP rfl (fun h5=>?_) (fun h5=>?_)
  · rw [lG h5] at hm;refine jY b ?_;refine kU (lI (cS x a) underlying115 jS rfl (b.bk 9 rfl)) ?_;refine vv (k:=oD) (ZE ih) (jO acA rfl) b hZ hB kL (by rw [DK];exact hm) (fun s' m' w5 hm hbs b=>?_) yy;cases hm;refine jY b ?_;refine lX ?_;exact nO rfl ⟨_,_,_,[],rfl,⟨rfl,rfl⟩,hbs,lf0 b⟩
  rw [lD h5] at hm;refine jY b ?_;refine vv TB (jO XJ rfl) b hZ hB kL hm fun s m w1 hm hbs b=>?_;refine jY b ?_;refine sP rfl (fun h1=>?_) (fun h1=>?_)
  · rw [lG h1] at hm;refine jY b ?_;refine kU (lI (cS x a) underlying115 jS rfl (b.bk 9 rfl)) ?_;refine vv (k:=oD) R4 (jO aaX rfl) b hZ hB kL (by rw [DK];exact hm) (fun s' m' w5 hm hbs2 b=>?_) yy;cases hm;refine jY b ?_;exact nO rfl ⟨_,_,_,[],rfl,⟨rfl,rfl⟩,lM hbs hbs2,lf0 b⟩
  rw [lD h1] at hm;refine jY b ?_;refine sP rfl (fun h2=>?_) (fun h2=>?_)
  · rw [lG h2] at hm;cases hT:x.e with
    | nil=>
      rw [hT] at hm;cases hm;cases hA:x.a with
      | nil=>
        refine F4 b [9] fun b=>?_;refine BD b ?_;refine RV 3 7 (by kernel_rfl) (wS rfl underlying113 rfl rfl (by rw [hT];simp) fun u w' hw _=>?_) (wS rfl underlying113 rfl rfl (by rw [hA];simp) fun u w' hw _=>?_)
        · exact prt b u w' hw
        · exact prt b u w' hw
      | cons e le=>
        have he:x.a[0]?=some e:=by rw [hA];rfl
        obtain ⟨a2,c2,b⟩:=Ud (j:=1) b rfl he;refine F4 b [9] fun b=>?_;refine BD b ?_;refine wZ 7 rfl ?_;refine dP (kZ underlying113 jU rfl rfl rfl (b.dl 13 rfl) he) (jK kL b) ?_;refine wZ 8 rfl ?_;refine dU (fun hu=>nT (cX e a2 c2) underlying166 rfl jU rfl rfl (hu.dc 11 rfl)) (jK kL b) ?_;refine hO 3 (wS rfl underlying113 rfl rfl (by rw [hT];simp) fun u w' hw _=>?_);exact prt b u w' hw
    | cons t lt=>
      have ht:x.e[0]?=some t:=by rw [hT];rfl
      rw [hT] at hm;obtain ⟨a1,c1,b⟩:=Ud (j:=0) b rfl ht;cases hA:x.a with
      | nil=>
        rw [hA] at hm;cases hm;refine F4 b [9] fun b=>?_;refine BD b ?_;refine wZ 3 rfl ?_;refine dP (kZ underlying113 jU rfl rfl rfl (b.dl 12 rfl) ht) (jK kL b) ?_;refine wZ 4 rfl ?_;refine dU (fun hu=>nT (cX t a1 c1) underlying166 rfl jU rfl rfl (hu.dc 11 rfl)) (jK kL b) ?_;refine hO 7 (wS rfl underlying113 rfl rfl (by rw [hA];simp) fun u w' hw _=>?_);exact prt b u w' hw
      | cons e le=>
        have he:x.a[0]?=some e:=by rw [hA];rfl
        rw [hA] at hm;obtain ⟨a2,c2,b⟩:=Ud (j:=3) b rfl he;refine F4 b [9] fun b=>?_;refine BD b ?_;refine wZ 3 rfl ?_;refine dP (kZ underlying113 jU rfl rfl rfl (b.dl 14 rfl) ht) (jK kL b) ?_;refine wZ 4 rfl ?_;refine dU (fun hu=>nT (cX t a1 c1) underlying166 rfl jU rfl rfl (hu.dc 13 rfl)) (jK kL b) ?_;refine wZ 7 rfl ?_;refine dP (kZ underlying113 jU rfl rfl rfl (b.dl 15 rfl) he) (jK kL b) ?_;refine wZ 8 rfl ?_;refine dU (fun hu=>nT (cX e a2 c2) underlying166 rfl jU rfl rfl (hu.dc 11 rfl)) (jK kL b) ?_;refine hO 9 (oC (k:=oD) rfl rfl (UU (fv:=fv) (fu:=fu)) (jO acf rfl) b hZ hB kL (by rw [DK];exact hm) (fun _ s' m' v' ds w3 _ h1 hm hbs2 b=>?_) (y2 (.tail _ (.tail _ (.head _))) (.head _)) fun _ _ _ h1 h2=>⟨h1,h2⟩);obtain ⟨rfl,rfl⟩:=h1;cases hm;refine ⟨sy 9 kL,hD ?_⟩;refine jY b ?_;exact nO rfl ⟨_,_,_,[],rfl,⟨rfl,rfl⟩,lM hbs hbs2,lf0 b⟩
  rw [lD h2] at hm;refine jY b ?_;refine sP rfl (fun h3=>?_) (fun h3=>?_)
  · rw [lG h3] at hm;refine jY b ?_;refine kU (lI (cS x a) underlying115 jS rfl (b.bk 9 rfl)) ?_;refine vv Ue (jO WE rfl) b hZ hB kL hm (fun s m w5 hm hbs2 b=>?_) yy;replace hbs:=lM hbs hbs2;refine jY b ?_;cases hT:x.e with
    | nil=>
      rw [hT] at hm;cases hm;refine jD rfl ?_;refine jY b ?_;exact nO rfl ⟨_,_,_,[],rfl,⟨rfl,rfl⟩,hbs,lf0 b⟩
    | cons t lt=>
      have ht:x.e[0]?=some t:=by rw [hT];rfl
      rw [hT] at hm;obtain ⟨a1,c1,b⟩:=Ud (j:=0) b rfl ht;refine jM ?_ ?_
      · show Value.bool (decide _)=_;rw [IX];simp
      refine jY b ?_;refine kU (kZ underlying113 jU rfl rfl rfl (b.dl 12 rfl) ht) (kU (nT (cX t a1 c1) underlying166 rfl jU rfl rfl (b.dc 11 rfl)) ?_);refine FQ (jO SK rfl) Gd ?_;rintro _ w6 ⟨rfl,hx⟩;replace b:=b.ext hx;refine vv (k:=oD) Io (jO Rb rfl) b hZ hB kL (by rw [DK];exact hm) fun s' m' w5 hm hbs2 b=>?_;cases hm;refine jY b ?_;exact nO rfl ⟨_,_,_,[],rfl,⟨rfl,rfl⟩,lM hbs hbs2,lf0 b⟩
  rw [lD h3] at hm;refine jY b ?_;refine sP rfl (fun h4=>?_) (fun h4=>?_)
  · rw [lG h4] at hm;refine jY b ?_;refine kU (lI (cS x a) underlying115 jS rfl (b.bk 9 rfl)) ?_;refine vv (k:=oD) (UL ih) (jO aaL rfl) b hZ hB kL (by rw [DK];exact hm) (fun s' m' w5 hm hbs2 b=>?_) yy;cases hm;refine jY b ?_;exact nO rfl ⟨_,_,_,[],rfl,⟨rfl,rfl⟩,lM hbs hbs2,lf0 b⟩
  rw [lD h4] at hm;refine jY b ?_;refine sP rfl (fun h6=>?_) (fun h6=>?_)
  · rw [lG h6] at hm;refine jY b ?_;refine kU (NU rfl rfl) ?_;refine jY b ?_;refine sP rfl (fun hf=>?_) (fun hf=>?_)
    · rw [lG (show x.k≠be from hf)] at hm;refine jY b ?_;refine kU (lI (cS x a) underlying115 jS rfl (b.bk 9 rfl)) ?_;refine vv Ue (jO WE rfl) b hZ hB kL hm (fun s m w5 hm hbs2 b=>?_) yy;replace hbs:=lM hbs hbs2;refine jY b ?_;refine vv (k:=oD) Pg (jO Tc rfl) b hZ hB kL (by rw [DK];exact hm) fun s' m' w5 hm hbs2 b=>?_;cases hm;refine jY b ?_;exact nO rfl ⟨_,_,_,[],rfl,⟨rfl,rfl⟩,lM hbs hbs2,lf0 b⟩
    · rw [lD (show ¬ x.k≠be from hf),Au] at hm;refine jY b ?_;refine PY (fun e a c=>Dp e a c) b hZ hB (j:=1) rfl hm rfl rfl (fun _ _ _=>jO IY rfl) fun cv s m A v1 w1 hm hbs2 b=>?_;replace hbs:=lM hbs hbs2;refine vv (k:=oD) Pg (jO Tc rfl) b hZ hB kL (by rw [DK];exact hm) fun s' m' w5 hm hbs2 b=>?_;cases hm;refine jY b ?_;exact nO rfl ⟨_,_,_,[],rfl,⟨rfl,rfl⟩,lM hbs hbs2,lf0 b⟩
  rw [lD h6] at hm;refine jY b ?_;refine sP rfl (fun h7=>?_) (fun h7=>?_)
  · rw [lG h7,Au] at hm;refine jY b ?_;refine PY (fun e a c=>Dp e a c) b hZ hB (j:=1) rfl hm rfl rfl (fun _ _ _=>jO IY rfl) fun cv s m A v1 w1 hm hbs2 b=>?_;replace hbs:=lM hbs hbs2;refine vv (k:=oD) Rm (jO VQ rfl) b hZ hB kL (by rw [DK];exact hm) fun s' m' w5 hm hbs2 b=>?_;cases hm;refine jY b ?_;exact nO rfl ⟨_,_,_,[],rfl,⟨rfl,rfl⟩,lM hbs hbs2,lf0 b⟩
  rw [lD h7] at hm;refine jY b ?_;refine sP rfl (fun h8=>?_) (fun h8=>?_)
  · rw [lG h8] at hm;refine jY b ?_;refine kU (lI (cS x a) underlying115 jS rfl (b.bk 9 rfl)) ?_;refine vv (k:=oD) (abO ih) (jO abA rfl) b hZ hB kL (by rw [DK];exact hm) (fun s' m' w5 hm hbs2 b=>?_) yy;cases hm;refine jY b ?_;exact nO rfl ⟨_,_,_,[],rfl,⟨rfl,rfl⟩,lM hbs hbs2,lf0 b⟩
  rw [lD h8] at hm;refine jY b ?_;refine sP rfl (fun h9=>?_) (fun h9=>?_)
  · rw [lG h9,Au] at hm;refine jY b ?_;refine PY (fun e a c=>Dp e a c) b hZ hB (j:=1) rfl hm rfl rfl (fun _ _ _=>jO IY rfl) fun cv s m A v1 w1 hm hbs2 b=>?_;replace hbs:=lM hbs hbs2;refine kU (D5 (v:=.agg (cO ⟨18,0,cv,0,0,0,0,0,wD⟩).toArray) rfl (by kernel_rfl)) ?_;refine lOp (k:=oD) b hZ hB (by rw [DK];exact hm) rfl (fun _ _=>jO GQ rfl) fun s' m' w4 A hm hbs2 b=>?_;cases hm;refine jY b ?_;exact nO rfl ⟨_,_,_,[],rfl,⟨rfl,rfl⟩,lM hbs hbs2,lf0 b⟩
  rw [lD h9] at hm;refine jY b ?_;refine sP rfl (fun h10=>?_) (fun h10=>?_)
  · rw [lG h10] at hm;refine jY b ?_;refine QN uq (jO EX rfl) b hZ hB kL hm fun z s m w1 hm hbs2 b=>?_;replace hbs:=lM hbs hbs2;refine vv (k:=oD) Pg (jO Tc rfl) b hZ hB kL (by rw [DK];exact hm) fun s' m' w5 hm hbs2 b=>?_;cases hm;refine jY b ?_;exact nO rfl ⟨_,_,_,[],rfl,⟨rfl,rfl⟩,lM hbs hbs2,lf0 b⟩
  rw [lD h10] at hm;cases hm;refine jY b ?_;exact nO rfl ⟨_,_,_,[],rfl,⟨rfl,rfl⟩,hbs,lf0 b⟩
theorem afA:TI prog 49 sn 1 24:=oq (by kernel_rfl)
theorem aeV:TI prog 50 sn 1 24:=oq (by kernel_rfl)
theorem ae0:TI prog 57 (.agg #[V 0,V 0,V 0]) 3 24:=oq (by kernel_rfl)
abbrev cF (x:kN)(a1:Option Addr)(c1:Nat)(a2:Option Addr)(c2:Nat):List Value:=[T x.c,V x.g,.slice a1 x.a.length c1,.slice a2 x.d.length c2]
section
variable {ρ:Operand->Value}{w:World}{d:Option Nat}{ty:TypeId}{pos:String}{af:Array Edge}{g:Option (Nat × Bool)}{x:Operand}{n1 n2 n3:Int}
theorem aek (h:ρ x=.agg #[V n1,V n2,V n3]):(execOp ρ ⟨d,.buildSlice 49 1 #[(0,x)],ty,pos,af,g⟩).run prog w=.ok (.value (.slice (some ⟨w.heap.size,0,none⟩) 1 1)) (w.alloc (.cells #[V n1,V n2,V n3] 107)):=by
 have e:(Instr.buildSlice 49 1 #[(0,.agg #[V n1,V n2,V n3])]).run prog w=.ok (.slice (some ⟨w.heap.size,0,none⟩) 1 1) (w.alloc (.cells #[V n1,V n2,V n3] 107)):=by kernel_rfl
 simp [execOp,h,e]
theorem aeg (h:ρ x=.agg #[V n1,V n2,V n3]):(execOp ρ ⟨d,.buildSlice 50 1 #[(0,x)],ty,pos,af,g⟩).run prog w=.ok (.value (.slice (some ⟨w.heap.size,0,none⟩) 1 1)) (w.alloc (.cells #[V n1,V n2,V n3] 57)):=by
 have e:(Instr.buildSlice 50 1 #[(0,.agg #[V n1,V n2,V n3])]).run prog w=.ok (.slice (some ⟨w.heap.size,0,none⟩) 1 1) (w.alloc (.cells #[V n1,V n2,V n3] 57)):=by kernel_rfl
 simp [execOp,h,e]
end
theorem Vx {R:Rn}{fv fu:Nat}:Cw R (fun _=>True) 24 #[Pt R.lb] (Ob (jI fv R.src) R.src fu) VU []:=by
 refine qh fun w Z G m s q b hZ _ hB hm=>?_;unfold Ob at hm;refine lq func24 rfl ?_;refine lK [(0,Pt R.lb)] ⟨rfl,trivial⟩ fun av=>?_;refine jY b ?_;cases hfn:ix? R.src.a.b s.f with
 | none=>
   rw [hfn] at hm;cases hm;refine F4 b [13] fun b=>?_;refine BD b ?_;refine RV 10 12 (by kernel_rfl) (wS rfl underlying24 rfl rfl (qU hfn) fun u w' hw _=>?_) (oo rfl rfl (rC b (jQ oO)) ?_)
   · exact prt b u w' hw
   rintro _ w4 ⟨b8,rfl,b⟩;refine ⟨jK kL b.tl,hO 10 (wS rfl underlying24 rfl rfl (qU hfn) fun u w' hw _=>?_)⟩;exact prt b u w' hw
 | some fn=>
 rw [hfn] at hm;dsimp only at hm;obtain ⟨kf,hkf,hfk⟩:=Wn hfn;obtain ⟨cs0,hr0,b⟩:=b.nm 7 rfl hfk;obtain ⟨a1,c1,a2,c2,rfl,hd1,hd2⟩:=kN.out hr0;replace b:=FI (FI b |>.jX (d:=.l a2 c2 fn.d) hd2);refine F4 b [13] fun b=>?_;refine BD b ?_;refine wZ 10 rfl ?_;refine dP (kZ underlying24 oO rfl rfl hkf (b.dl 7 rfl) hfk) (jK kL b) ?_;refine wZ 11 rfl ?_;refine dU (fun hu=>nT (cF fn a1 c1 a2 c2) underlying61 rfl oO rfl rfl (hu.dc 11 rfl)) (jK kL b) ?_;refine hO 12 (oo rfl rfl (rC b (jQ oO)) ?_);rintro _ w4 ⟨b4,rfl,b⟩;refine ⟨jK kL b.tl,hO 13 (os rfl rfl (mQ b 0 (cF fn a1 c1 a2 c2) rfl oO rfl rfl) fun w5 b=>⟨sy 13 kL,hD ?_⟩)⟩;have b:Bx w w5 Z G (Low R m s ++ [.box b4 61 (cF fn a1 c1 a2 c2).toArray]) (kQ R m s ++ [.l a2 c2 fn.d]):=b.ad [1,2,3,4,5,6,7,8,9,0] [0,1,2,3,4,5,6,7,8,9,10];refine jY b ?_;refine lg (t_n b 0 [V (fn.a.length:Int)] rfl oW rfl rfl) fun w6 b=>?_;have b:Bx w w6 Z G (Low R m { s with b:=fn.a.length } ++ [.box b4 61 (cF fn a1 c1 a2 c2).toArray]) (kQ R m { s with b:=fn.a.length } ++ [.l a2 c2 fn.d]):=b;refine jY b ?_;refine kU (D5 (v:=.agg #[V (-1),V (-1),V s.f]) rfl (by kernel_rfl)) ?_;refine qd (jL b [[V (-1),V (-1),V s.f]] ([⟨-1,-1,s.f⟩]:List Ck) (aek rfl) rfl rfl (by decide) ⟨rfl,trivial⟩) ?_;rintro _ w7 ⟨b5,rfl,b⟩;replace b:=acL b hZ;refine jY b ?_;refine lg (t_n b 0 [.slice (some ⟨b5,0,none⟩) 1 1] rfl afA rfl rfl) fun w8 b=>?_;have hQ:Da.ok (.wp (.l m.cA m.cC s.ctxs) (HP m.hp m.bs s.hnd)) _ _:=b.d 5 rfl;have hL:Da.ok (.l (some ⟨b5,0,none⟩) 1 ([⟨-1,-1,s.f⟩]:List Ck)) _ _:=b.d 10 rfl;replace b:=b.JE 5 (d:=.wp (.l (some ⟨b5,0,none⟩) 1 ([⟨-1,-1,s.f⟩]:List Ck)) (HP m.hp m.bs s.hnd)) ⟨hL,hQ.2⟩
 have b:Bx w w8 Z G (Low R { m with cA:=some ⟨b5,0,none⟩,cC:=1 } { s with b:=fn.a.length,ctxs:=[⟨-1,-1,s.f⟩] } ++ [.box b4 61 (cF fn a1 c1 a2 c2).toArray]) (kQ R { m with cA:=some ⟨b5,0,none⟩,cC:=1 } { s with b:=fn.a.length,ctxs:=[⟨-1,-1,s.f⟩] } ++ [.l a2 c2 fn.d]):=b.ad [0,1,2,3,4,5,6,7,8,9] [0,1,2,3,4,5,6,7,8,9,11];clear hQ hL;refine jY b ?_;cases hvs:ix? R.src.c s.f with
 | none=>
   rw [hvs] at hm;cases hm;refine F4 b [] fun b=>?_;refine BD b ?_;refine hO 9 (wS rfl underlying27 rfl rfl (qU hvs) fun u w' hw _=>?_);exact prt b u w' hw
 | some vs=>
 rw [hvs] at hm;dsimp only at hm;obtain ⟨kv,hkv,hvk⟩:=Wn hvs;obtain ⟨cs1,hr1,b⟩:=b.nm 8 rfl hvk;obtain ⟨a5,c5,rfl,hv5⟩:=hr1;replace b:=FI (FI b |>.jX (d:=.l a5 c5 vs) hv5);refine F4 b [] fun b=>?_;refine BD b ?_;refine wZ 9 rfl ?_;refine dP (kZ underlying27 Em rfl rfl hkv (b.dl 8 rfl) hvk) (jK kL b) ?_;refine wZ 10 rfl ?_;refine dU (fun hu=>kC underlying53 rfl rfl ((hu.dc 11 rfl) 0 _ rfl)) (jK kL b) ?_;refine BD b ?_;refine hD ?_;replace b:=lY b [0] [0,2];have hbd:=(b.dl 10 rfl).bd;generalize hK:(fun (_:Unit)=>yt fn.d fun x=>sH (jI fv R.src) R.src.c x.n |>.bind fun e=>xG e |>.bind fun _=>oV e 0 |>.bind fun _=>uy (xY (jI fv R.src) R.src.c fu) fn.d)=kont at hm;refine jY b ?_
 refine kG (fun aw f w'=>∃ (j:Nat)(m2:zx)(s2:Lw),aw=vs.length - j∧j≤vs.length∧Has f [(0,Pt R.lb),(2,Pt b4),(45,.slice a5 vs.length c5),(46,V (vs.length:Int)),(47,V (j:Int))]∧(∃ t,m2.bs=m.bs ++ t)∧
     Bx w w' Z G (Low R m2 s2 ++ [.box b4 61 (cF fn a1 c1 a2 c2).toArray]) (kQ R m2 s2 ++ [.l a5 c5 vs,.l a2 c2 fn.d])/\(Eh (vs.drop j) j |>.bind kont) s2=some q)
   vs.length ⟨0,{ m with cA:=some ⟨b5,0,none⟩,cC:=1 },_,rfl,uN _,⟨rfl,rfl,rfl,rfl,rfl,trivial⟩,Pq,b,hm⟩ ?_
 clear b hm;rintro aw f w6 ⟨j,m2,s2,rfl,hj,hf,hbs,b,hm⟩ J hJ;obtain ⟨av2,rfl⟩:=lu _ _ hf;clear hf;refine jY b ?_;refine sP rfl (fun hlt=>?_) (fun hlt=>?_)
 · obtain ⟨x,hx⟩:=mF (l:=vs) (k:=j) (by omega);rw [l6 hx,Eh] at hm;unfold LM.bind at hm;dsimp only at hm;refine jY b ?_;refine kU (kZ underlying53 uo rfl rfl rfl (b.dl 10 rfl) hx) (kU (nT (cV x) underlying55 rfl uo rfl rfl (vD (b.dl 10 rfl) hx (fun _ h=>h))) ?_);refine EG b (jQ uo) fun w7 b5 b=>?_;refine jY b ?_;refine lg (mQ b 10 (cV x) rfl uo rfl rfl) fun w8 b=>?_;have b:Bx w w8 Z G (Low R m2 s2 ++ [.box b4 61 (cF fn a1 c1 a2 c2).toArray,.box b5 55 (cV x).toArray]) (kQ R m2 s2 ++ [.l a5 c5 vs,.l a2 c2 fn.d]):=b;refine jY b ?_;refine sP rfl (fun h8=>?_) (fun h8=>?_)
   · rw [lG h8] at hm;cases hm;refine jY b ?_;exact YE rfl fun _=>YQ b
   rw [lD h8] at hm;refine jY b ?_;refine sP rfl (fun h3=>?_) (fun h3=>?_)
   · rw [lG h3,Option.bind_assoc] at hm;obtain ⟨o2,ho2,hm⟩:=bs hm;refine jY b ?_;refine F4 b [11] fun b=>?_;refine BD b ?_;refine hO 11 (os rfl rfl (aed b 4 (k:=((j:Nat):Int)) (u:=((s2.objs.length:Nat):Int)) rfl underlying86 fkI rfl rfl rfl) fun w9 b=>⟨sy 11 kL,hD ?_⟩);have b:Bx w w9 Z G (Low R m2 { s2 with omap:=yD s2.omap j s2.objs.length } ++ [.box b4 61 (cF fn a1 c1 a2 c2).toArray,.box b5 55 (cV x).toArray]) (kQ R m2 { s2 with omap:=yD s2.omap j s2.objs.length } ++ [.l a5 c5 vs,.l a2 c2 fn.d]):=b;refine jY b ?_;refine F4 b [11,15] fun b=>?_;refine BD b ?_;refine wZ 9 rfl ?_;refine dP (D5 (v:=.agg #[V 0,V (j:Int),V x.a]) rfl (by kernel_rfl)) (jK kL b) ?_;refine hO 10 (oo rfl rfl (jL b [[V 0,V (j:Int),V x.a]] ([⟨0,j,x.a⟩]:List CR) (aeg rfl) rfl rfl (by decide) ⟨rfl,trivial⟩) ?_);rintro _ w10 ⟨b6,rfl,b⟩;refine ⟨jK kL (b.tl.AR fun d hd=>yw _ hd),hO 11 (oo rfl rfl (ku (α:=CR) b 4 3 rfl rfl underlying50 ae0 rfl (by decide) (by decide) hB rfl rfl (b.Bo 0 0 rfl rfl) ho2) ?_)⟩;rintro _ w11 ⟨A2,k2,cs2,rfl,b⟩;refine ⟨sy 11 kL,?_⟩;refine wZ 12 rfl ?_;refine dNl rfl (sy 11 kL) ?_;refine wZ 13 rfl ?_;refine dP (yF rfl rfl rfl rfl) (sy 11 kL) ?_;refine wZ 14 rfl ?_;refine dP (yF rfl rfl rfl rfl) (sy 11 kL) ?_;refine hO 15 (os rfl rfl (t_n b 1 [.slice A2 o2.length k2] rfl aeV rfl rfl) fun w12 b=>⟨sy 15 kL,hD ?_⟩);have b:Bx w w12 Z G (Low R { m2 with oA:=A2,oC:=k2,oc:=cs2 } { s2 with omap:=yD s2.omap j s2.objs.length,objs:=o2 } ++ [.box b4 61 (cF fn a1 c1 a2 c2).toArray,.box b5 55 (cV x).toArray]) (kQ R { m2 with oA:=A2,oC:=k2,oc:=cs2 } { s2 with omap:=yD s2.omap j s2.objs.length,objs:=o2 } ++ [.l a5 c5 vs,.l a2 c2 fn.d]):=b.ad [1,2,3,4,5,6,7,8,9,10,11] [1,2,3,4,5,6,7,8,9,10,11,12];refine jY b ?_
     exact hJ (vs.length - (j+1)) _ _ (by omega) ⟨j+1,{ m2 with oA:=A2,oC:=k2,oc:=cs2 },_,rfl,by omega,⟨rfl,rfl,rfl,rfl,congrArg V (Vk (by omega)),trivial⟩,hbs,lY b [0] [0,1],hm⟩
   · rw [lD h3] at hm;refine jY b ?_;exact hJ (vs.length - (j+1)) _ _ (by omega) ⟨j+1,_,_,rfl,by omega,⟨rfl,rfl,rfl,rfl,congrArg V (Vk (by omega)),trivial⟩,hbs,lY b [0] [0,1],hm⟩
 obtain rfl:j=vs.length:=by omega
 rw [lT,Eh] at hm;subst hK;replace hm:(yt fn.d fun x=>sH (jI fv R.src) R.src.c x.n |>.bind fun e=>xG e |>.bind fun _=>oV e 0 |>.bind fun _=>uy (xY (jI fv R.src) R.src.c fu) fn.d) s2=some q:=hm;rw [Au] at hm;unfold RN at hm;refine jY b ?_;refine uE ?_;refine jY b ?_;cases h0:fn.d[0]? with
 | none=>
   rw [h0] at hm;cases hm;have:=List.getElem?_eq_none_iff.1 h0;exact Xy underlying59 rfl rfl (by omega) fun u w' hw=>prt b u w' hw
 | some x=>
 rw [h0] at hm;dsimp only at hm;obtain ⟨cs,hr,e2⟩:=b.nm 11 rfl h0;obtain ⟨a6,k6,a7,k7,a8,k8,a9,k9,rfl,_⟩:=jA.out hr;replace b:=FI e2;refine kU (kZ underlying59 jS rfl rfl rfl (b.dl 12 rfl) h0) ?_;refine jY b ?_;refine gC rfl ((b.dc 10 rfl) 2 _ rfl) rfl ?_;refine jY b ?_;refine lCl (Iw (fv:=fv)) (jO CV rfl) b hZ hB kL hm fun n1 c1 s3 m3 w3 hc1 hm hbs2 b=>?_;replace hbs:=lM hbs hbs2;refine jY b ?_;refine vv (Nh (i:=n1) (c:=c1)) (jO ZO rfl) b hZ hB hc1 hm fun s3 m3 w3 hm hbs2 b=>?_;have hc1:=uj hbs2 hc1;replace hbs:=lM hbs hbs2;refine jY b ?_;refine vv (vS (i:=n1) (c:=c1)) (jO EJ rfl) b hZ hB hc1 hm fun s3 m3 w3 hm hbs2 b=>?_;replace hbs:=lM hbs hbs2;refine jY b ?_;refine vv (k:=oD) (FB (TY fu)) (jO M4 rfl) b hZ hB kL (by rw [DK];exact hm) (fun s' m' w5 hm hbs2 b=>?_) (fun d hd=>by rw [List.mem_singleton.1 hd];exact .tail _ (.tail _ (.head _)));cases hm;refine jY b ?_;exact nO rfl ⟨_,_,_,[],rfl,⟨rfl,rfl⟩,lM hbs hbs2,lf0 b⟩
theorem PZ {P:Program}{w:World}{t:TypeId}{ms:Array (String × TypeId)}(n:Nat)(ht:P.underlying t=some (.interface ms)){v:Value}{b:Bool}(hv:(v=.nilIface/\b=true)\/(∃ t' u,v=.iface t' u/\b=false)):(Op.equalIn (n+1) t v .nilIface).run P w=.ok b w:=by
 rcases hv with ⟨rfl,rfl⟩|⟨t',u,rfl,rfl⟩
 · simp only [Op.equalIn,Sem.run_bind,run_underlying ht,Result.andThen_ok];rfl
 · simp only [Op.equalIn,Sem.run_bind,run_underlying ht,Result.andThen_ok];rfl
theorem U0 {P:Program}{w:World}{t:TypeId}{ms:Array (String × TypeId)}(ht:P.underlying t=some (.interface ms)){v:Value}{b:Bool}(hv:(v=.nilIface/\b=true)\/(∃ t' u,v=.iface t' u/\b=false)):(Op.equal t v .nilIface).run P w=.ok b w:=
 PZ 9999 ht hv
section
variable {P:Program}{w:World}{ρ:Operand->Value}{d:Option Nat}{ty:TypeId}{pos:String}{af:Array Edge}{g:Option (Nat × Bool)}{t t':TypeId}{x:Operand}
theorem ZH {ms:Array (String × TypeId)}{v:Value}{b:Bool}(ht:P.underlying t=some (.interface ms))(hx:ρ x=v)(hc:ρ (.const .nilIface)=.nilIface)(hv:(v=.nilIface/\b=true)\/(∃ t' u,v=.iface t' u/\b=false)) :Yl P ρ (.binOp .neq t x (.const .nilIface) t') d ty pos af g w (.bool !b):=by
 have heq:=U0 (w:=w) ht hv;have hg:(eqGuard .neq t x (.const .nilIface) v .nilIface).run P w=.ok () w:=by rcases hv with ⟨rfl,_⟩|⟨t',u,rfl,_⟩ <;> simp [eqGuard]
 have hbin:(binOp .neq t v .nilIface).run P w=.ok (.bool !b) w:=by
  have:binOp .neq t v .nilIface=(do pure (.bool !(<- Op.equal t v .nilIface)):Sem Value):=by rcases hv with ⟨rfl,_⟩|⟨t',u,rfl,_⟩ <;> rfl
  rw [this];simp only [Sem.run_bind,heq,Result.andThen_ok,Sem.run_pure]
 unfold Yl execOp;simp only [hx,hc,Sem.run_bind,hg,hbin,Result.andThen_ok,Sem.run_pure]
theorem ae6 {xt:TypeId}{fs:Array Field}{v:Value}(hu:P.underlying t=some (.struct fs))(hx:ρ x=.iface t v):Yl P ρ (.typeAssert x xt t true) d ty pos af g w (.tuple #[v,.bool true]):=by simp [Yl,execOp,hx,Instr.typeAssert,run_underlying hu]
end
theorem rdC {P : Program} {f : Fr} {w : World} {t b : Nat} {ty te : TypeId} {v : Value} (hf : f t = .pointer (some ⟨b, 0, none⟩)) (hu : ∀ ρ : Operand -> Value, ρ (.tmp 0) = .pointer (some ⟨b, 0, none⟩) -> Yl P ρ (.load ty (.tmp 0)) none 0 "" #[] none w v) {cs : Array Value} (hB : uO w b te cs) : Yg P f w (.cell t ty) v := by
 refine ⟨b,te,cs,hf,hB,?_⟩;have hl:=hu (fun _=>.pointer (some ⟨b,0,none⟩)) rfl;simp only [Yl,execOp,Instr.loadAt,Instr.sureAddr,Sem.run_bind,Sem.run_pure,Result.andThen_ok] at hl;cases hq:(loadVar ty ⟨b,0,none⟩).run P w with
 | ok v w'=>rw [hq] at hl;simp at hl;rw [hl.1,hl.2]
 | halt h w'=>rw [hq] at hl;simp at hl
section
variable {P:Program}{N:Fz}
theorem adD {x y:Code}{Q:Exit->Act->World->Prop}{f:Fr}{w:World}(h:WP P N x ⟨fun f w=>Yh P N y Q f w,fun _ _ _=>False,fun _ _=>False,fun _ _ _=>False⟩ f w):Yh P N (.seq x y) Q f w:=
 afC h fun e a w q=>by
  cases e with
  | normal=>obtain ⟨f,h1,h2⟩:=q;exact h2.elim
  | exit i=>obtain ⟨f,h1,h2⟩:=q;exact h2.elim
  | ret=>obtain ⟨f,h1,h2⟩:=q;exact h2.elim
  | panic c=>obtain ⟨f,h1,h2⟩:=q;exact h2.elim
  | _=>exact q.elim
theorem ZU (l:List (Nat × Value)){c:Code}{Q:Exit->Act->World->Prop}{f:Fr}{w:World}(h:Has f l)(k:∀ g,Yh P N c Q (SY g l) w):Yh P N c Q f w:=by rw [<-GY h];exact k f
theorem SV {fn:Func}{d:Deferred}{fv:Fn}{cap:Array Value}{g:FuncId}{args:Array Value}{R:Ending->World->Prop}{f:Fr}{a:Act}{w:World}{M:Fz}{v:Value}{l:List PanicEntry}{R1:World->Prop}{V1:List PanicEntry->World->Prop}(hT:d.target=.fn fv cap)(hi:(invoke d.target d.args).run P w=.ok (.enter g args) w)(hl:∀ e ∈ l,e.goexit=false)(hc:CallsD P g args (.panicking (⟨v,false,false⟩ :: l)) w (RD (.panicking (⟨v,true,false⟩ :: l)) R1 V1))(h:∀ w',R1 w'->Reads P fn (fun v w'=>R (.returned v) w') f w')(hv:∀ c w',V1 c w'->R (.panicked (c ++ ⟨v,true,false⟩ :: l)) w')(ha:L6 M f a):Leaves P fn a.tmps R [d] (.panicking (⟨v,false,false⟩ :: l)) w:=by
 refine ⟨by simp,fv,cap,g,args,hT,hi,?_⟩;intro c cs hu;obtain ⟨e,u',w',fr,h1,h2,h3⟩:=hc c cs hu;refine ⟨e,u',w',fr,?_,h2,h3⟩;cases e with
 | returned v1=>
  obtain ⟨rfl,h1⟩:=h1;have hq:=h w' h1;unfold Reads at hq;obtain ⟨v2,hv2,hR⟩:=hq a.tmps ha.get;have hs:settle (.panicking (⟨v,true,false⟩ :: l))=.returning:=by
   have e:l.dropWhile (!·.goexit)=[]:=by
    clear hc hv h2 hu hq h
    induction l with
    | nil=>rfl
    | cons e l ih=>rw [List.dropWhile_cons,hl e (Bl ..)];exact ih (fun e he=>hl e (yw _ he))
   unfold settle;dsimp only;rw [e]
  show Leaves P fn a.tmps R [] (settle _) w';rw [hs];exact ⟨v2,hv2,hR⟩
 | panicked c=>
  obtain ⟨rfl,h1⟩:=h1;exact hv _ _ h1
 | outgrown=>exact h1.elim
end
theorem Ql {P:Program}{fn:Func}{d:Deferred}{fv:Fn}{cap:Array Value}{g:FuncId}{args:Array Value}{R:Ending->World->Prop}{f:Fr}{a:Act}{w:World}{M:Fz}{R1:World->Prop}(hT:d.target=.fn fv cap)(hi:(invoke d.target d.args).run P w=.ok (.enter g args) w)(hc:CallsD P g args .returning w (RD .returning R1 (fun _ _=>False)))(h:∀ w',R1 w'->Reads P fn (fun v w'=>R (.returned v) w') f w')(ha:L6 M f a):Leaves P fn a.tmps R [d] .returning w:=by
 refine ⟨by simp,fv,cap,g,args,hT,hi,?_⟩;intro c cs hu;obtain ⟨e,u',w',fr,h1,h2,h3⟩:=hc c cs hu;refine ⟨e,u',w',fr,?_,h2,h3⟩;cases e with
 | returned v=>
  obtain ⟨rfl,h1⟩:=h1;have h:=h w' h1;unfold Reads at h;obtain ⟨v2,hv,hR⟩:=h a.tmps ha.get;exact ⟨v2,hv,hR⟩
 | panicked c=>exact h1.2.elim
 | outgrown=>exact h1.elim
theorem afY {P:Program}{ρ:Operand->Value}{pos:String}{af:Array Edge}{w:World}{x:Operand}{fn:Fn}{caps:Array Value}(h:ρ x=.func fn #[] caps) :(execOp ρ ⟨none,.defer ⟨.value x,#[],#[]⟩,0,pos,af,none⟩).run P w=.ok (.defer ⟨.fn fn caps,#[]⟩) w:=by simp [execOp,resolve,h,Deferred.ofValue]
theorem aem {P:Program}{w:World}{ρ:Operand->Value}{d:Option Nat}{ty:TypeId}{pos:String}{af:Array Edge}{g:Option (Nat × Bool)}{x:Operand}(v:Value)(h:ρ x=v):Yl P ρ (.assign x) d ty pos af g w v:=by rw [<-h];rfl
theorem Vy {P:Program}{w:World}{ρ:Operand->Value}{d:Option Nat}{ty:TypeId}{pos:String}{af:Array Edge}{g:Option (Nat × Bool)}{x:Operand}(v:Value)(h:ρ x=v):Yl P ρ (.move x) d ty pos af g w v:=by rw [<-h];rfl
theorem ae3 {P:Program}{w:World}{ρ:Operand->Value}{d:Option Nat}{ty:TypeId}{pos:String}{af:Array Edge}{g:Option (Nat × Bool)}{fn:Fn}{caps:List Operand}{vs:List Value}(h:caps.map ρ=vs):Yl P ρ (.makeFunc fn #[] caps.toArray) d ty pos af g w (.func fn #[] vs.toArray):=by subst h;simp [Yl,execOp,Instr.makeFunc]
section
variable {P:Program}
theorem adU {i:Nat}{o o2:Oper}{Q:Exit->Act->List Frame->World->Prop}{a:Act}{c:Frame}{cs:List Frame}{w:World}{v:Value}(hg:o.guard=none)(he:(execOp a.eval o).run P w=.ok .recover w)(hg2:o2.guard=none)(he2:(execOp (a.put o.dst (GN c.mode).1).eval o2).run P w=.ok (.value v) w)(k:Q .normal ((a.put o.dst (GN c.mode).1).put o2.dst v) ({ c with mode:=(GN c.mode).2 } :: cs) w):(Code.region i #[o,o2] false).wpS P Q a (c :: cs) w:=by
 refine wpS_region ?_;show wpOpsS P #[o,o2] Q [0,1] a (c :: cs) w;have k2:wpOpsS P #[o,o2] Q [1] (a.put o.dst (GN c.mode).1) ({ c with mode:=(GN c.mode).2 } :: cs) w:=by simp only [wpOpsS,List.getElem?_toArray,List.getElem?_cons_succ,Eu,Region.wanted,hg2,if_true,he2,Oper.upon];exact k
 have e:∀ m,c.mode=m->({ c with mode:=m }:Frame)=c:=fun m h=>by subst h;rfl
 rw [wpOpsS];simp only [List.getElem?_toArray,Eu,Region.wanted,hg,if_true,he];cases hm:c.mode with
 | panicking l=>
  cases l with
  | nil=>simp only [recoverD,hm];rw [hm] at k2;simp only [GN] at k2;rw [e _ hm] at k2;exact k2
  | cons e l=>
   obtain ⟨v,r,g⟩:=e;cases r <;> cases g <;> simp only [recoverD,hm] <;> (rw [hm] at k2;simp only [GN] at k2;first | exact k2 | (rw [e _ hm] at k2;exact k2))
 | _=>simp only [recoverD,hm];rw [hm] at k2;simp only [GN] at k2;rw [e _ hm] at k2;exact k2
theorem Kh {g:FuncId}{fn:Func}{i:Nat}{o o2:Oper}{y:Code}{args:Array Value}{u:FrameMode}{w:World}{R:World->Prop}{V:List PanicEntry->World->Prop}{v:Value}(hf:P.funcs[g]?=some fn)(hb:fn.body=some (.seq (.region i #[o,o2] false) y))(hr:fn.results=#[])(he:(execOp (ev (Ct args)) o).run P w=.ok .recover w)(he2:(execOp (ev (lH (Ct args) o.dst (GN u).1)) o2).run P w=.ok (.value v) w)(h:WP P (fn.ntmps,[]) y ⟨fun _ w=>R w,fun _ _ _=>False,fun _ w=>R w,fun _ c w=>V c w⟩ (lH (lH (Ct args) o.dst (GN u).1) o2.dst v) w)(hg:o.guard=none:=by rfl)(hg2:o2.guard=none:=by rfl)(hs:Nat.ble args.size fn.ntmps=true:=by exact rfl)(hok:JK (fn.ntmps,[]) (.seq (.region i #[o,o2] false) y)=true:=by kernel_rfl) :CallsD P g args u w (RD (GN u).2 R V):=by
 refine callsD_of_wpS hf hb fun c cs hu=>?_;subst hu;simp only [JK,Ep] at hok;have ha:=JX (Nat.le_of_ble_eq_true hs);have hd1:Az (fn.ntmps,[]) o=true/\Az (fn.ntmps,[]) o2=true:=by have:=hok.1;simp at this;exact this
 have hp:=ha.put o.dst (tZ hd1.1) (GN c.mode).1;refine wpS_seq (adU hg (by rw [ha.Bp];exact he) hg2 (by rw [hp.Bp];exact he2) (wpS_of_wp ?_));unfold WP at h;refine Code.wp_mono (fun e a w q=>?_) (h hok.2 _ (hp.put o2.dst (tZ hd1.2) _));cases e with
 | normal=>obtain ⟨f,h1,h2⟩:=q;exact ⟨h1.dfr,_,rfl,_,results_none hr _ P w,rfl,h2⟩
 | ret=>obtain ⟨f,h1,h2⟩:=q;exact ⟨h1.dfr,_,rfl,_,results_none hr _ P w,rfl,h2⟩
 | panic c=>obtain ⟨f,h1,h2⟩:=q;exact ⟨h1.dfr,_,rfl,rfl,h2⟩
 | exit i=>obtain ⟨f,h1,h2⟩:=q;exact h2.elim
 | _=>exact q.elim
end
def lkD {α:Type}[Rp α](R:List Rw)(m:List (List α)):Da:=⟨fun F w=>R.length=m.length/\∀ (k:Nat)(r:Rw)(x:List α),R[k]?=some r->m[k]?=some x->r.cs.length=x.length/\kD F w r.a r.c x,fun h k=>⟨h.1,fun i r x h1 h2=>⟨(h.2 i r x h1 h2).1,(h.2 i r x h1 h2).2.mv k⟩⟩⟩
theorem abZ {α:Type}[Rp α]{w0 w:World}{Z G:Nat->Prop}{L:List It}{D:List Da}{base e:Nat}{R:List Rw}{m:List (List α)}(h:Bx w0 w Z G (.tT base e (Rp.sz α) R none :: L) D)(hZ:∀ b,G b->Z b)(j:Nat)(hj:D[j]?=some (.nu R m)):Bx w0 w Z G L (lkD R m :: D.eraseIdx j):=by have hpw:=Bu.1 h.pw;have h1:Bx w0 w Z G L (D.eraseIdx j):=h.tl.AR fun d hd=>(List.eraseIdx_sublist D j).subset hd;have hf:=h.it _ (Bl ..);have hE:=h.tl.d2 j hj;refine h1.jX (d:=lkD R m) ⟨hE.len,fun k r x hr hx=>?_⟩;obtain ⟨r',hr',hEx⟩:=hE.get hx;rw [hr] at hr';cases hr';refine ⟨hEx.len,(hf.1.1 k r hr (by simp)).WQ hEx fun b hb=>⟨fun hl=>hZ b (hf.2 b ⟨k,r,hr,by simp,hb⟩ hl),fun it hi=>hpw.1 it hi b ⟨k,r,hr,by simp,hb⟩⟩⟩
theorem Tv {F:Nat→Prop}{w:World}:∀ {bl:List mP}{R:List Rw}{T:List (List Value)},(lkD R (bl.map (·.c))).ok F w→xg F w T (bl.map (·.b))→xg F w (ou bl R T) bl
 | [],[],[],_,_=>trivial
 | b :: bl,r :: R,t :: T,h1,h2=>by obtain ⟨hc,hl⟩:=h1.2 0 r b.c rfl rfl;refine ⟨?_,Tv (bl:=bl) (R:=R) (T:=T) ⟨by have:=h1.1;simpa using this,fun k r x h3 h4=>h1.2 (k+1) r x (by simpa using h3) (by simpa using h4)⟩ h2.2⟩;obtain ⟨a,a',c,c',e,e',rfl,k1,k2,k3⟩:=x9.out h2.1;refine mP.inn ⟨r.a,r.c,a,a',c,c',e,e',?_,hl,k1,k2,k3⟩;show V b.a :: (r.hdr ++ _)=_;rw [Rw.hdr,hc];rfl
 | [],r :: R,_,h,_=>absurd h.1 (by simp)
 | b :: bl,[],_,h,_=>absurd h.1 (by simp)
 | b :: bl,r :: R,[],_,h=>h.elim
 | [],[],t :: T,_,h=>h.elim
theorem XY:TI prog 83 (.agg #[]) 0 0:=oq (by kernel_rfl)
theorem adi:jC prog 24:=⟨_,func24,by kernel_rfl,by kernel_rfl⟩
theorem afw {N:Fz}{ops:Array Oper}{K:KK}{rest:List Oper}{f:Fr}{w:World}{d:Option Nat}{ty:TypeId}{pos:String}{af:Array Edge}{x:Operand}{t xt t2:TypeId}{fs:Array Field}{v z:Value}{s by_:Nat}(hu:prog.underlying t=some (.struct fs))(hz:TI prog t z s by_)(hx:ev f x=.iface t2 v)(hne:t2≠t)(h:o8 prog N ops K rest (lH f d (.tuple #[z,.bool false])) w):o8 prog N ops K (⟨d,.typeAssert x xt t true,ty,pos,af,none⟩ :: rest) f w:=by obtain ⟨i,hi1,hi2,hi3,hi4⟩:=hz;refine kU (v:=.tuple #[z,.bool false]) ?_ h;simp [execOp,hx,Instr.typeAssert,run_underlying hu,zeroValue,typeInfo,hi1,hi2,hne]
abbrev cM (A:Option Addr)(n c:Nat):List Value:=[.slice A n c]
def aen (x:Value)(e:Int):Prop:=x=.iface 83 (.agg #[])/\e=5\/∃ t v,x=.iface t v/\t≠83/\e=4
theorem YD {A G:Nat->Prop}{D:List Da}{w0 w:World}{b2 b3:Nat}{u:FrameMode}{A1:Option Addr}{n c:Nat}{e:Int}(b:Bx w0 w A G [.box b2 36 (cM A1 n c).toArray,.box b3 37 #[V 0]] D)(hu:aen (GN u).1 e) :CallsD prog 23 #[Pt b2,Pt b3] u w (RD (GN u).2 (fun w'=>Bx w0 w' A G [.box b2 36 (cM none 0 0).toArray,.box b3 37 #[V e]] D) (fun _ _=>False)):=by
 have key:∃ t v,(GN u).1=.iface t v/\(t=83/\v=.agg #[]/\e=5\/t≠83/\e=4):=by
   rcases hu with ⟨h,h5⟩|⟨t,v,h,h1,h2⟩
   · exact ⟨_,_,h,.inl ⟨rfl,rfl,h5⟩⟩
   · exact ⟨t,v,h,.inr ⟨h1,h2⟩⟩
 clear hu;obtain ⟨t,v,hx,hu⟩:=key;refine Kh (v:=.iface t v) func23 rfl rfl rfl (aem _ hx) ?_;rw [hx];refine lK [(0,Pt b2),(1,Pt b3),(2,.iface t v)] ⟨rfl,rfl,rfl,trivial⟩ fun av=>?_;refine GV (yj ?_);refine kU (Vy (.iface t v) rfl) ?_;refine kU (ZH underlying20 rfl rfl (.inr ⟨t,v,rfl,rfl⟩)) ?_;refine jY b ?_;refine kU (D5 (v:=.agg #[sn]) rfl (by kernel_rfl)) ?_;refine lg (mQ b 0 [sn] rfl Pd rfl rfl) fun w1 b=>?_;refine lg (t_n b 1 [V 4] rfl Qv rfl rfl) fun w2 b=>?_;have b:Bx w0 w2 A G [.box b2 36 (cM none 0 0).toArray,.box b3 37 #[V 4]] D:=b;refine jY b ?_;refine kU (Vy (.iface t v) rfl) ?_;rcases hu with ⟨rfl,rfl,rfl⟩|⟨h83,rfl⟩
 · refine kU (ae6 underlying83 rfl) ?_;refine kU (Vy (.tuple #[.agg #[],.bool true]) rfl) ?_;refine jY b ?_;refine sW b (jQ XY) fun w3 b5 b=>?_;refine lg (mQ b 0 [] rfl XY rfl rfl) fun w4 b=>?_;refine jY b ?_;refine lg (t_n b 2 [V 5] rfl Qv rfl rfl) fun w5 b=>?_;refine jY b ?_;exact b.tl
 · refine afw underlying83 XY rfl h83 ?_;refine kU (Vy (.tuple #[.agg #[],.bool false]) rfl) ?_;refine jY b ?_;refine sW b (jQ XY) fun w3 b5 b=>?_;refine lg (mQ b 0 [] rfl XY rfl rfl) fun w4 b=>?_;refine jY b ?_;exact b.tl
theorem ach {R:Rn}{g:FuncId}{args:Array Value}{mm:LM Unit}{w0 w:World}{Z G:Nat->Prop}{X:List It}{Y:List Da}{m:zx}{s:Lw}{p:Lo Unit}(hc:Cw R (fun _=>True) g args mm VU [])(b:Bx w0 w Z G (Low R m s ++ X) (kQ R m s ++ Y))(hZ:∀ b,G b->Z b)(hB:R.B<=w0.heap.size)(hp:mm s=some p) :Calls prog g args w (RP (fun v w'=>∃ s' m',v=.tuple #[]/\p=.ok () s'/\Bx w0 w' Z G (Low R m' s' ++ X) (kQ R m' s' ++ Y)) (fun ch w'=>Pb p ch/\Bx w0 w' Z G X [])):=by
 have hpre:Pre w (HY w0 Z (Low R m s ++ X)) (Low R m s) ([] ++ kQ R m s):=b.pre fun d hd=>b.da d (List.mem_append_left _ (by simpa using hd));refine (hc _ _ _ _ _ hpre kL (rE hB b.tQ.size) hp).mono fun e w' he=>?_;cases e with
 | returned v=>
  obtain ⟨a,s',m',ds,rfl,⟨rfl,rfl⟩,hbs,hk⟩:=he;refine ⟨s',m',rfl,rfl,(b.MV hZ hk).AR fun d hd=>?_⟩;rcases pX.1 hd with hd | hd
  · exact List.mem_append_left _ (by simpa using hd)
  · exact List.mem_append_right _ (List.mem_append_right _ hd)
 | panicked ch=>exact ⟨he.1,(b.MV hZ he.2).AR fun d hd=>by cases hd⟩
 | outgrown=>exact he.elim
abbrev m0:zx:=⟨none,0,[],[],none,0,none,0,[],none,none,0,[],none,0,[],[],[]⟩
theorem ZA {w0 w:World}{Z G:Nat->Prop}{R:Rn}{f:Int}{i1 i2 i3 i4:It}{d1:Da}(b:Bx w0 w Z G [.box R.lb 90 (D7 R m0 (Ms f)).toArray,.map Vj VN R.ob ([]:List (Int × Int)),i1,i2,i3,i4] [d1,.l R.a.a1 R.a.c1 R.src.a.a,.l R.a.a2 R.a.c2 R.src.a.b,.l R.a.a3 R.a.c3 R.src.c,.l R.a.a4 R.a.c4 R.src.b]) :Bx w0 w Z G (Low R m0 (Ms f) ++ [i1,i2,i3,i4]) (kQ R m0 (Ms f) ++ [d1]):=by have b1:=b.push (it:=.own R.B none 0 69 10 []) (Ext.refl w) (Go.Fw.Own.nil w _ 69 10) (fun k hk=>by cases hk);have b2:=b1.push (it:=.tT R.B 73 11 [] none) (Ext.refl w) ⟨fun i r h=>(nomatch h),fun i j r s b h=>(nomatch h)⟩ (fun k ⟨i,r,h,_⟩=>by cases h);have b3:=b2.push (it:=.own R.B none 0 57 3 []) (Ext.refl w) (Go.Fw.Own.nil w _ 57 3) (fun k hk=>by cases hk);have b4:=b3.push (it:=.OJ ekP VN none none) (Ext.refl w) kL (fun k hk=>by cases hk);have b5:=b4.push (it:=.own R.B none 0 3 1 []) (Ext.refl w) (Go.Fw.Own.nil w _ 3 1) (fun k hk=>by cases hk);have b6:=b5.push (it:=.own R.B none 0 111 1 []) (Ext.refl w) (Go.Fw.Own.nil w _ 111 1) (fun k hk=>by cases hk);have b7:=b6.push (it:=.Po 170 [] []) (Ext.refl w) ⟨kL,List.nodup_nil⟩ (fun k hk=>by cases hk);have e1:=b7.jX (d:=.nu ([]:List Rw) ([]:List (List qm))) kL;have e2:=e1.jX (d:=.els [] ([]:List x9)) kL;have e3:=e2.jX (d:=.els [] ([]:List CR)) kL;have e4:=e3.jX (d:=.els [] ([]:List Int)) kL;have e5:=e4.jX (d:=.els [] ([]:List (List Pc))) kL;have e6:=e5.jX (d:=.wp (.l none 0 ([]:List Ck)) (HP [] [] [])) ⟨kD.nil,rfl,fun k i h=>by cases h⟩;exact e6.ad [7,6,5,4,8,3,2,1,0,9,10,11,12] [5,4,3,2,1,0,7,8,9,10,6]
theorem YP {w0 w:World}{Z G:Nat->Prop}{R:Rn}{m:zx}{s:Lw}{i1 i2 i3 i4:It}{d1:Da}(b:Bx w0 w Z G (Low R m s ++ [i1,i2,i3,i4]) (kQ R m s ++ [d1]))(hZ:∀ b,G b->Z b) :Bx w0 w Z G [.box R.lb 90 (D7 R m s).toArray,i1,i2,i3,i4] [.l m.bA m.bC s.blocks,.l m.cA m.cC s.ctxs,.l m.oA m.oC s.objs,d1,.l R.a.a1 R.a.c1 R.src.a.a,.l R.a.a2 R.a.c2 R.src.a.b,.l R.a.a3 R.a.c3 R.src.c,.l R.a.a4 R.a.c4 R.src.b]:=by have b1:=abZ (α:=qm) (b.ad [2,0,1,3,9,10,11,12] [0,1,2,3,4,5,6,7,8,9,10]) hZ 0 rfl;have hE:=Tv (bl:=s.blocks) (R:=m.R) (T:=m.tc) (b1.d 0 rfl) (b1.de 1 rfl);have b2:=b1.jX (d:=.els (ou s.blocks m.R m.tc) s.blocks) hE;have b3:=b2.Kt (α:=mP) hZ 1 0 rfl rfl;have b4:=b3.Kt (α:=CR) hZ 1 3 rfl rfl;have hc:Da.ok (.wp (.l m.cA m.cC s.ctxs) (HP m.hp m.bs s.hnd)) _ _:=b4.d 6 rfl;have b5:=b4.jX (d:=.l m.cA m.cC s.ctxs) hc.1;exact b5.ad [0,1,2,3,4] [2,0,1,12,8,9,10,11]
set_option linter.unusedSimpArgs false
noncomputable section
def Ls (m:jR->Option (Ec × Int)):Prop:=∀ {p x}{o:jR}{a b c d e f h i R},Pre p x [] [.l a b o.a.a,.l c d o.a.b,.l e f o.c,.l h i o.b]->m o=some R-> Calls prog 11 #[.agg #[Z a o.a.a b,Z c o.a.b d,Z e o.c f,Z h o.b i]] p (tV fun v w=>jy R fun t u=>∃ (j:OA)(k:Nat),v=.tuple #[.agg #[Z j t.b k],V u]/\Bx p w x (mW []) [] [.l j k t.b])
end
noncomputable def uS (fu:Nat)(s:jR):Option (Ec × Int):=(WX fu (jI fu) s).map fun p=>(⟨p.1⟩,p.2)
abbrev cK (s:Lw)(m:zx):List Value:=[V s.b,.slice m.bA s.blocks.length m.bC,.slice m.cA s.ctxs.length m.cC,.slice m.oA s.objs.length m.oC]
theorem adx {ρ:Operand->Value}{w:World}{d:Option Nat}{ty:TypeId}{pos:String}{af:Array Edge}{g:Option (Nat × Bool)}{x:Operand}{n:Int}{a1 a2 a3:Option Addr}{n1 c1 n2 c2 n3 c3:Nat}(h:ρ x=.agg #[V n,.slice a1 n1 c1,.slice a2 n2 c2,.slice a3 n3 c3]):(execOp ρ ⟨d,.buildSlice 34 1 #[(0,x)],ty,pos,af,g⟩).run prog w=.ok (.value (.slice (some ⟨w.heap.size,0,none⟩) 1 1)) (w.alloc (.cells #[V n,.slice a1 n1 c1,.slice a2 n2 c2,.slice a3 n3 c3] 52)):=by
 have e:(Instr.buildSlice 34 1 #[(0,.agg #[V n,.slice a1 n1 c1,.slice a2 n2 c2,.slice a3 n3 c3])]).run prog w=.ok (.slice (some ⟨w.heap.size,0,none⟩) 1 1) (w.alloc (.cells #[V n,.slice a1 n1 c1,.slice a2 n2 c2,.slice a3 n3 c3] 52)):=by kernel_rfl
 simp [execOp,h,e]
theorem Yt {A G:Nat->Prop}{L:List It}{D:List Da}{w0 w:World}{b2 b3:Nat}(b:Bx w0 w A G L D) :CallsD prog 23 #[Pt b2,Pt b3] .returning w (RD .returning (fun w'=>Bx w0 w' A G L D) (fun _ _=>False)):=by refine Kh (u:=.returning) (v:=.nilIface) func23 rfl rfl rfl (aem _ rfl) ?_;refine lK [(0,Pt b2),(1,Pt b3),(2,.nilIface)] ⟨rfl,rfl,rfl,trivial⟩ fun av=>?_;refine GV (yj ?_);refine kU (Vy .nilIface rfl) ?_;refine kU (ZH underlying20 rfl rfl (.inl ⟨rfl,rfl⟩)) ?_;refine jY b ?_;exact b
theorem Vf {w:World}{b o:Nat}{t:TypeId}{cs:Array Value}{l:List Value}(h:uO w b t cs)(hl:∀ j v,l[j]?=some v->cs[o+j]?=some v):Cells w b o l:=fun j v hv=>h.cell (hl j v hv)
theorem EK (fu:Nat):Ls (uS fu):=by
 intro w0 Y s a1 c1 a2 c2 a3 c3 a4 c4 R hP hM;have b:=hP.bx;clear hP;have hZ:∀ b,mW [] b->Y b:=fun b ⟨it,h,_⟩=>by cases h
 generalize hG:mW []=G at b hZ ⊢;obtain ⟨q,hM2,rfl⟩:=Option.map_eq_some_iff.1 hM;clear hM;have hM:FU (jI fu s) s fu s.a.b.length 0 []=some q:=hM2;clear hM2;have hbd:=(b.dl 1 rfl).bd
 have key:Calls prog 11 #[.agg #[.slice a1 s.a.a.length c1,.slice a2 s.a.b.length c2,.slice a3 s.c.length c3,.slice a4 s.b.length c4]] w0
    (RP (fun v w'=>∃ (j:Option Addr)(k:Nat),v=.tuple #[.agg #[.slice j q.1.length k],V q.2]/\Bx w0 w' Y G [] [.l j k q.1]) (fun _ _=>False)):=by
  refine UH func11 rfl ?_;refine ZU [(0,.agg #[.slice a1 s.a.a.length c1,.slice a2 s.a.b.length c2,.slice a3 s.c.length c3,.slice a4 s.b.length c4])] ⟨rfl,trivial⟩ fun av=>?_;refine adD (yj ?_);refine sW b (uZ rfl) fun w1 b1 b=>?_;refine sW b (jQ Pd) fun w2 b2 b=>?_;refine sW b (jQ Qv) fun w3 b3 b=>?_;refine Og ?_;replace b:=(b.EM p8 52).ad [3,2,1,0] [0,1,2,3,4];have b:Bx w0 w3 Y G [.box b1 30 #[.slice a1 s.a.a.length c1,.slice a2 s.a.b.length c2,.slice a3 s.c.length c3,.slice a4 s.b.length c4],.box b2 36 (cM none 0 0).toArray,.box b3 37 #[V 0],.own w0.heap.size none 0 52 (Rp.sz p8) []] [.els [] ([]:List p8),.l a1 c1 s.a.a,.l a2 c2 s.a.b,.l a3 c3 s.c,.l a4 c4 s.b]:=b;refine ZU [(1,Pt b1),(2,Pt b2),(3,Pt b3)] ⟨rfl,rfl,rfl,trivial⟩ fun av2=>?_;refine abQ (ae3 (vs:=[Pt b2,Pt b3]) rfl) (afY rfl) ?_;refine aeG (Q:=⟨fun _ _=>False,fun _ _ _=>False,fun f w'=>(f 2=Pt b2/\f 3=Pt b3)/\∃ A c,q.2=0/\Bx w0 w' Y G [.box b2 36 (cM A q.1.length c).toArray,.box b3 37 #[V 0]] [.l A c q.1],
    fun f ch w'=>(f 2=Pt b2/\f 3=Pt b3)/\(∃ e x l,q=([],e)/\ch=⟨x,false,false⟩ :: l/\(∀ e ∈ l,e.goexit=false)/\aen x e)/\∃ A n c,Bx w0 w' Y G [.box b2 36 (cM A n c).toArray,.box b3 37 #[V 0]] []⟩) ?_ ?_
  · refine jY b ?_
    refine kG (fun aw f w'=>∃ (j:Nat)(A:Option Addr)(c:Nat)(cs:List (List Value))(acc:List p8),aw=s.a.b.length - j∧j≤s.a.b.length∧Has f [(1,Pt b1),(2,Pt b2),(3,Pt b3),(10,V (s.a.b.length:Int)),(11,V (j:Int))]∧
        Bx w0 w' Y G [.box b1 30 #[.slice a1 s.a.a.length c1,.slice a2 s.a.b.length c2,.slice a3 s.c.length c3,.slice a4 s.b.length c4],.box b2 36 (cM A acc.length c).toArray,.box b3 37 #[V 0],.own w0.heap.size A c 52 (Rp.sz p8) cs] [.els cs acc,.l a1 c1 s.a.a,.l a2 c2 s.a.b,.l a3 c3 s.c,.l a4 c4 s.b]/\
        FU (jI fu s) s fu (s.a.b.length - j) j acc=some q)
      s.a.b.length ⟨0,none,0,[],[],rfl,uN _,⟨rfl,rfl,rfl,rfl,rfl,trivial⟩,b,hM⟩ ?_
    clear b hM;rintro aw f w4 ⟨j,A,c,cs,acc,rfl,hj,hf,b,hM⟩ J hJ;obtain ⟨av3,rfl⟩:=lu _ _ hf;clear hf;refine jY b ?_;refine sP rfl (fun hlt=>?_) (fun hlt=>?_)
    · obtain ⟨k,hk⟩:∃ k,s.a.b.length - j=k+1:=⟨s.a.b.length - j - 1,by omega⟩;rw [hk,FU] at hM;obtain ⟨lo,hlo,hM⟩:=bs hM;refine jY b ?_;refine kU (lI [.slice a1 s.a.a.length c1,.slice a2 s.a.b.length c2,.slice a3 s.c.length c3,.slice a4 s.b.length c4] underlying30 zq rfl (b.bk 0 rfl)) ?_;refine jY b ?_;refine qd (aaj b Vj VN underlying86) ?_;rintro _ w5 ⟨ob,rfl,b⟩;refine kU (D5 (v:=.agg (D7 ⟨w0.heap.size,0,ob,⟨a1,c1,a2,c2,a3,c3,a4,c4⟩,s⟩ m0 (Ms j)).toArray) rfl (by kernel_rfl)) ?_;refine sW b (uZ rfl) fun w6 lb b=>?_;refine jY b ?_;replace b:=ZA (R:=⟨w0.heap.size,lb,ob,⟨a1,c1,a2,c2,a3,c3,a4,c4⟩,s⟩) (f:=j) b;have hcall:=ach (R:=⟨w0.heap.size,lb,ob,⟨a1,c1,a2,c2,a3,c3,a4,c4⟩,s⟩) (g:=24) (args:=#[Pt lb]) (mm:=Ob (jI fu s) s fu) (m:=m0) (s:=Ms j) Vx b hZ (mO _) hlo;refine sCP (jO adi rfl) hcall (fun ch w' h=>?_) ?_
      · obtain ⟨h1,h2⟩:=h;refine ⟨⟨rfl,rfl⟩,?_,A,acc.length,c,h2.ad [1,2] []⟩;cases lo with
        | ok a s'=>exact h1.elim
        | lim=>
          cases hM;obtain ⟨l,rfl,hl⟩:=h1;exact ⟨5,_,l,rfl,rfl,hl,.inl ⟨rfl,rfl⟩⟩
        | rt=>
          cases hM;obtain ⟨u,l,rfl,hl⟩:=h1;exact ⟨4,_,l,rfl,rfl,hl,.inr ⟨_,_,rfl,by decide,rfl⟩⟩
      rintro _ w7 ⟨s',m',rfl,rfl,b⟩;dsimp only at hM;obtain ⟨acc2,hacc,hM⟩:=bs hM;replace b:=YP b hZ;refine jY b ?_;refine F4 b [7,9] fun b=>?_;refine BD b ?_;refine wZ 1 rfl ?_;refine dU (v:=.slice A acc.length c) (fun hu=>yL rfl (hu.bk 2 rfl) rfl rfl rfl) (jK kL b) ?_;refine BD b ?_;refine wZ 5 rfl ?_;refine dU (fun hu=>nT (cK s' m') underlying52 rfl QG rfl rfl (Vf (hu.bk 0 rfl) fun j v h=>?_)) (jK kL b) ?_
      · rcases j with _ | _ | _ | _ | j
        · exact h
        · exact h
        · exact h
        · exact h
        · simp at h
      refine hO 6 (oo rfl rfl (jL b [cK s' m'] ([s'.code]:List p8) (adx rfl) rfl rfl (by decide) ⟨p8.inn ⟨m'.bA,m'.bC,m'.cA,m'.cC,m'.oA,m'.oC,rfl,b.d 0 rfl,b.d 1 rfl,b.d 2 rfl⟩,trivial⟩) ?_);rintro _ w8 ⟨b6,rfl,b⟩;refine ⟨jK kL (b.tl.AR fun d hd=>yw _ hd),hO 7 (oo rfl rfl (ku (α:=p8) b 5 4 rfl rfl underlying34 QG rfl (by decide) (by decide) (mO _) rfl rfl (b.Bo 0 0 rfl rfl) hacc) ?_)⟩;rintro _ w9 ⟨A2,k2,cs2,rfl,b⟩;refine ⟨sy 7 kL,?_⟩;refine wZ 8 rfl ?_;refine dP (yF rfl rfl rfl rfl) (sy 7 kL) ?_;refine hO 9 (os rfl rfl (t_n b 3 [.slice A2 acc2.length k2] rfl aef rfl rfl) fun w10 b=>⟨sy 9 kL,hD ?_⟩);replace b:=b.ad [2,3,4,5] [4,5,6,7,8];refine jY b ?_;exact hJ (s.a.b.length - (j+1)) _ _ (by omega) ⟨j+1,A2,k2,cs2,acc2,rfl,by omega,⟨rfl,rfl,rfl,rfl,congrArg V (Vk (by omega)),trivial⟩,b,by rw [show s.a.b.length - (j+1)=k by omega];exact hM⟩
    · obtain rfl:j=s.a.b.length:=by omega
      rw [Nat.sub_self,FU] at hM;cases hM;refine jY b ?_;refine uE ?_;refine jY b ?_;refine kU (lI (cM A acc.length c) underlying36 Pd rfl (b.bk 1 rfl)) ?_;refine lg (mQ b 1 (cM A acc.length c) rfl Pd rfl rfl) fun w5 b=>?_;refine lg (t_n b 2 [V 0] rfl Qv rfl rfl) fun w6 b=>?_;refine jY b ?_;refine lX ?_;exact ⟨⟨rfl,rfl⟩,A,c,rfl,(b.Kt hZ 3 0 rfl rfl).ad [1,2] [0]⟩
  · have fin:∀ {f:Fr}{w':World}{A:Option Addr}{c:Nat},f 2=Pt b2→f 3=Pt b3→Bx w0 w' Y G [.box b2 36 (cM A q.1.length c).toArray,.box b3 37 #[V q.2]] [.l A c q.1]→
        Reads prog f11 (fun v w'=>∃ (j:Option Addr)(k:Nat),v=.tuple #[.agg #[.slice j q.1.length k],V q.2]/\Bx w0 w' Y G [] [.l j k q.1]) f w':=fun {f w' A c} h2 h3 b=>by
      refine CP (fn:=f11) rfl (rdC h2 (fun ρ h=>lI (cM A q.1.length c) underlying36 Pd h (b.bk 0 rfl)) (b.bk 0 rfl)) (rdC h3 (fun ρ h=>kC underlying37 rfl h ((b.bk 1 rfl).cell rfl)) (b.bk 1 rfl)) ?_;exact ⟨A,c,rfl,b.ad [] [0]⟩
    intro e a1' w1' q';cases e with
    | normal=>obtain ⟨f,h1,h2⟩:=q';exact h2.elim
    | exit i=>obtain ⟨f,h1,h2⟩:=q';exact h2.elim
    | ret=>
      obtain ⟨f,h1,⟨h12,h13⟩,A,c,he,b⟩:=q';show Leaves prog f11 a1'.tmps _ a1'.defers .returning w1';rw [h1.dfr];exact Ql rfl rfl (Yt b) (fun w2 b=>fin h12 h13 (by rw [he];exact b)) h1
    | panic ch=>
      obtain ⟨f,h1,⟨h12,h13⟩,⟨e,x,l,rfl,rfl,hl,hE⟩,A,n,c,b⟩:=q';show Leaves prog f11 a1'.tmps _ a1'.defers (.panicking _) w1';rw [h1.dfr];exact SV rfl rfl hl (YD b hE) (fun w2 b=>fin h12 h13 (b.jX (d:=.l none 0 ([]:List p8)) kD.nil)) (fun c w' h=>h.elim) h1
    | _=>exact q'.elim
 exact key.mono fun e w he=>by
  cases e with
  | returned v=>exact ⟨v,rfl,he⟩
  | panicked c=>exact he.elim
  | outgrown=>exact he.elim
noncomputable section
def OI (m:Option Bool):Prop:=∀ {a c b},Pre a c [] []->m=some b-> Calls prog 10 #[] a (tV fun v w=>v=.bool b/\Bx a w c (mW []) [] [])
def AA (fu:Nat):Option Bool:=(DN fu (⟨#[102,117,110,99,32,102,40,97,41,32,123,32,114,101,116,117,114,110,32,97,32,43,32,49,59,32,125]⟩:BA)).bind fun b=>(uS fu b).bind fun f=>jy f fun a c=>if c=0 then if (a.b.length:Int)=1 then (ix a.b 0).bind fun e=>if (e.b.length:Int)=1 then (ix e.b 0).bind fun d=>some (decide ((d.c.length:Int)=4)) else some false else some false else some false
theorem Hw (fu:Nat):OI (AA fu):=by
 intro w0 au r0 hP b;unfold AA at b;have a:=hP.bx;clear hP;generalize hG:mW _=G at a ⊢;refine cf func10 r (lK [] y fun av=>q (g (s (kH r) (n (q (g ?_))))));obtain ⟨ab,h1,b⟩:=bs b;refine sc (ec adu r) (MN fu (a.pr [] [] [] r) h1) ?_;rintro _ w1 ⟨E,F,H,I,J,K,L,M,rfl,hK⟩;replace a:=a.cn [] [] hK;obtain ⟨m,ac,h2,b⟩:=mq b;refine sc (ec aam r) (EK fu (a.pr [] [] [0,1,2,3] r) h2) ?_;rintro _ w2 ⟨c,e,rfl,hK⟩;replace a:=a.cn [] [] hK;refine s wQ (s (kE r r) (s (kE r r) (sW a (jQ Pd) fun w3 b3 a=>lg (mQ a 0 [Z c m.b e] r Pd r r) fun w4 a=>s (xi r) (n (q (g (s (mi r) (s (kM r r) (s (lJ r) ?_)))))))));rcases iv b with ⟨h5,b⟩|⟨h5,b⟩
 ·rw [vF h5];refine kI r (s (Tt r) (kI r (s (l34 r (a.bk 0 r) r) (kI r (s (mV VP r) (kI r (s (kM r r) (s (kT r r) (s (lJ r) ?_)))))))));rcases iv b with ⟨h6,b⟩|⟨h6,b⟩
  ·rw [vF h6];refine kI r (s (Tt r) (kI r (s (l34 r (a.bk 0 r) r) ?_)));obtain ⟨e7,h,b⟩:=bs b;obtain ⟨k7,N,h⟩:=kW h;obtain ⟨ah,a8,a⟩:=a.nm 0 rfl h;obtain ⟨Q,R,S,U,W,X,rfl,Y,a0,a1⟩:=p8.out a8;replace a:=a.jX (d:=.l Q R e7.b) Y;replace a:=a.jX (d:=.l S U e7.c) a0;replace a:=a.jX (d:=.l W X e7.d) a1;refine kI r (s (kZ VP QG r r N (a.dl 4 r) h) (kI r (s (WV r) (kI r (s (kC Vb r r ((a.dc 3 r) 1 _ r)) (kI r (s (mV Vb r) (kI r (s (kM r r) (s (kT r r) (s (lJ r) ?_)))))))))));rcases iv b with ⟨h9,b⟩|⟨h9,b⟩
   ·rw [vF h9];refine kI r (s (Tt r) (kI r (s (l34 r (a.bk 0 r) r) (kI r (s (kZ VP QG r r N (a.dl 4 r) h) (kI r (s (WV r) (kI r (s (kC Vb r r ((a.dc 3 r) 1 _ r)) ?_)))))))));obtain ⟨j,f,b⟩:=bs b;obtain ⟨ai,a2,f⟩:=kW f;obtain ⟨ae,a3,a⟩:=a.nm 2 rfl f;obtain ⟨o,p,t,u,v,w,x,z,rfl,A,B,C,D⟩:=mP.out a3;replace a:=a.jX (d:=.l o p j.c) A;replace a:=a.jX (d:=.l t u j.b.a) B;replace a:=a.jX (d:=.l v w j.b.d.a.a) C;replace a:=a.jX (d:=.l x z j.b.d.b.a) D;refine kI r (s (kZ Vb Oz r r a2 (a.dl 7 r) f) (kI r (s (XI r) (kI r (s (kC vE r r ((a.dc 4 r) 1 _ r)) (kI r (s (mV vE r) (kI r (s (kM r r) (s (kT r r) (s (kH r) (n (lX ?_)))))))))))));obtain rfl:=sm b;exact jN r (nH r) ⟨r,a.ad [] []⟩
   rw [wm h9];refine jZ r (jZ r (jZ r (jZ r (jZ r (jZ r (jZ r (jZ r (jZ r (jZ r (s (kK r r) (s (kH r) (n (lX ?_)))))))))))));obtain rfl:=sm b;exact jN r (nH r) ⟨r,a.ad [] []⟩
  rw [wm h6];refine jZ r (jZ r (jZ r (jZ r (jZ r (jZ r (jZ r (s (kK r r) (s (lJ r) (jZ r (jZ r (jZ r (jZ r (jZ r (jZ r (jZ r (jZ r (jZ r (jZ r (s (kK r r) (s (kH r) (n (lX ?_))))))))))))))))))))));obtain rfl:=sm b;exact jN r (nH r) ⟨r,a.ad [] []⟩
 rw [wm h5];refine jZ r (jZ r (jZ r (jZ r (s (kK r r) (s (lJ r) (jZ r (jZ r (jZ r (jZ r (jZ r (jZ r (jZ r (s (kK r r) (s (lJ r) (jZ r (jZ r (jZ r (jZ r (jZ r (jZ r (jZ r (jZ r (jZ r (jZ r (s (kK r r) (s (kH r) (n (lX ?_))))))))))))))))))))))))))));obtain rfl:=sm b;exact jN r (nH r) ⟨r,a.ad [] []⟩
end
end Go.Proofs.YtdkneekpdecjbaaGreat
