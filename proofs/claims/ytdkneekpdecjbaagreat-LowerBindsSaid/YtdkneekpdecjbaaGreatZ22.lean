/- The lowering's functions that end a block with a terminator; parts of expressions. -/
import Derived.Test.YtdkneekpdecjbaaGreatZ21
set_option linter.unusedVariables false
set_option maxRecDepth 4000
set_option maxHeartbeats 12800000
namespace Go.Proofs.YtdkneekpdecjbaaGreat
open Go.RowKit Go.Fw Go.Proofs.Tryz
theorem Cu:jC prog 142:=⟨_,func142,by kernel_rfl,by kernel_rfl⟩
theorem IZ:jC prog 149:=⟨_,func149,by kernel_rfl,by kernel_rfl⟩
theorem EJ:jC prog 37:=⟨_,func37,by kernel_rfl,by kernel_rfl⟩
theorem SE:jC prog 150:=⟨_,func150,by kernel_rfl,by kernel_rfl⟩
theorem EX:jC prog 114:=⟨_,func114,by kernel_rfl,by kernel_rfl⟩
theorem VQ:jC prog 112:=⟨_,func112,by kernel_rfl,by kernel_rfl⟩
theorem Jc:jC prog 146:=⟨_,func146,by kernel_rfl,by kernel_rfl⟩
theorem Ji:jC prog 170:=⟨_,func170,by kernel_rfl,by kernel_rfl⟩
theorem WY:TI prog 65 (.agg #[V 0,sn,V 0,sn]) 4 64:=oq (by kernel_rfl)
abbrev ln:Da:=.l none 0 ([]:List Int)
theorem JH {w0 w:World}{Z G:Nat->Prop}{X:List It}{Y:List Da}{R:Rn}{m:zx}{s:Lw}(b:Bx w0 w Z G (Low R m s ++ X) (kQ R m s ++ Y)):Bx w0 w Z G (Low R m s ++ X) (kQ R m s ++ (ln :: Y)):=(b.jX (d:=ln) kD.nil).AR fun d hd=>by
 rcases pX.1 hd with hd | hd
 · exact yw _ (List.mem_append_left _ hd)
 · rcases oM.1 hd with rfl | hd
   · exact Bl ..
   · exact yw _ (List.mem_append_right _ hd)
theorem y3 {a b c:Da}{Y:List Da}(h1:a ∈ Y)(h2:b ∈ Y)(h3:c ∈ Y):∀ d ∈ [a,b,c],d ∈ Y:=fun d hd=>by
 rcases oM.1 hd with rfl | hd
 · exact h1
 rcases oM.1 hd with rfl | hd
 · exact h2
 rw [List.mem_singleton.1 hd];exact h3
theorem FE {R:Rn}{i c:Nat}:Cw R (fun m=>m.bs[i]?=some c) 141 #[Pt R.lb,Pt c] (wR i) VU []:=by
 refine qh fun w Z G m s q b hZ hH hB hm=>?_;unfold wR at hm;refine lq func141 rfl ?_;refine lK [(0,Pt R.lb),(1,Pt c)] ⟨rfl,rfl,trivial⟩ fun av=>?_;refine jY b ?_;by_cases h:s.opn=true
 · rw [lG h] at hm;refine jM (congrArg Value.bool h) ?_;refine jY b ?_;refine Vp (Aq (a:=none) (cc:=0) (first:=[])) (jO Cu rfl) (JH b) hZ hB hH hm (fun e A ce s m w1 hm hbs b=>?_) y1;refine FQ (jO II rfl) BP ?_;rintro _ w2 ⟨rfl,hx⟩;replace b:=b.ext hx;refine kU (D5 (v:=.agg #[V e.b,.slice A e.a.length ce,V (-1),sn]) rfl (by kernel_rfl)) ?_;refine kU (D5 (v:=.agg (cT ⟨1,0,0,[],⟨e,SG⟩⟩ none 0 A ce none 0).toArray) rfl (by kernel_rfl)) ?_;refine vv (k:=oD) IL (jO IZ rfl) b hZ hB kL (by rw [DK];exact hm) (fun s' m' w5 hm hbs2 b=>?_) (y3 (.tail _ (.head _)) (.head _) (.tail _ (.head _)));cases hm;refine jY b ?_;exact nO rfl ⟨_,_,_,[],rfl,⟨rfl,rfl⟩,lM hbs hbs2,lf0 b⟩
 · rw [lD h] at hm;cases hm;refine jD (congrArg Value.bool (nt h)) ?_;refine jY b ?_;exact nO rfl ⟨_,_,_,[],rfl,⟨rfl,rfl⟩,Pq,lf0 b⟩
abbrev cE (e:ug)(a:Option Addr)(c:Nat):List Value:=[V e.b,.slice a e.a.length c]
theorem FC {R:Rn}{v:Int}{yes no:ug}{a1 a2:Option Addr}{c1 c2:Nat}:Cw R (fun _=>True) 143 #[Pt R.lb,V v,.agg (cE yes a1 c1).toArray,.agg (cE no a2 c2).toArray] (CK v yes no) VU [.l a1 c1 yes.a,.l a2 c2 no.a]:=by refine qh fun w Z G m s q b hZ _ hB hm=>?_;refine lq func143 rfl ?_;refine lK [(0,Pt R.lb),(1,V v),(2,.agg (cE yes a1 c1).toArray),(3,.agg (cE no a2 c2).toArray)] ⟨rfl,rfl,rfl,rfl,trivial⟩ fun av=>?_;refine GV (yj ?_);refine EG b (uZ rfl) fun w1 b6 b=>?_;refine EG b (uZ rfl) fun w1 b7 b=>?_;refine jY b ?_;refine kU (lI (cE yes a1 c1) underlying64 rJ rfl (b.bk 9 rfl)) ?_;refine kU (lI (cE no a2 c2) underlying64 rJ rfl (b.bk 10 rfl)) ?_;refine kU (D5 (v:=.agg #[V yes.b,.slice a1 yes.a.length c1,V no.b,.slice a2 no.a.length c2]) rfl (by kernel_rfl)) ?_;refine kU (D5 (v:=.agg (cT ⟨2,v,0,[],⟨yes,no⟩⟩ none 0 a1 c1 a2 c2).toArray) rfl (by kernel_rfl)) ?_;refine vv (k:=oD) IL (jO IZ rfl) (JH b) hZ hB kL (by rw [DK];exact hm) (fun s' m' w5 hm hbs b=>?_) (y3 (.head _) (.tail _ (.head _)) (.tail _ (.tail _ (.head _))));cases hm;refine jY b ?_;exact nO rfl ⟨_,_,_,[],rfl,⟨rfl,rfl⟩,hbs,lf0 b⟩
theorem Pg {R:Rn}{v:Int}:Cw R (fun _=>True) 110 #[Pt R.lb,V v] (Ei v) VU []:=by refine qh fun w Z G m s q b hZ _ hB hm=>?_;refine lq func110 rfl ?_;refine lK [(0,Pt R.lb),(1,V v)] ⟨rfl,rfl,trivial⟩ fun av=>?_;refine jY b ?_;refine FQ (jO II rfl) BP ?_;rintro _ w2 ⟨rfl,hx⟩;replace b:=b.ext hx;refine FQ (jO II rfl) BP ?_;rintro _ w3 ⟨rfl,hx⟩;replace b:=b.ext hx;refine kU (D5 (v:=.agg #[V (-1),sn,V (-1),sn]) rfl (by kernel_rfl)) ?_;refine kU (D5 (v:=.agg (cT ⟨4,v,0,[],⟨SG,SG⟩⟩ none 0 none 0 none 0).toArray) rfl (by kernel_rfl)) ?_;refine vv (k:=oD) IL (jO IZ rfl) (JH b) hZ hB kL (by rw [DK];exact hm) (fun s' m' w5 hm hbs b=>?_) (y3 (.head _) (.head _) (.head _));cases hm;refine jY b ?_;exact nO rfl ⟨_,_,_,[],rfl,⟨rfl,rfl⟩,hbs,lf0 b⟩
theorem Rm {R:Rn}{v:Int}:Cw R (fun _=>True) 112 #[Pt R.lb,V v] (xR v) VU []:=by
 refine qh fun w Z G m s q b hZ _ hB hm=>?_;unfold xR at hm;refine lq func112 rfl ?_;refine lK [(0,Pt R.lb),(1,V v)] ⟨rfl,rfl,trivial⟩ fun av=>?_;refine jY b ?_;refine FQ (jO II rfl) BP ?_;rintro _ w2 ⟨rfl,hx⟩;replace b:=b.ext hx;refine FQ (jO II rfl) BP ?_;rintro _ w3 ⟨rfl,hx⟩;replace b:=b.ext hx;refine kU (D5 (v:=.agg #[V (-1),sn,V (-1),sn]) rfl (by kernel_rfl)) ?_;refine EG b (jQ WY) fun w1 b4 b=>?_;refine lg (mQ b 9 [V (-1),sn,V (-1),sn] rfl WY rfl rfl) fun w4 b=>?_;have b:Bx w w4 Z G (Low R m s ++ [.box b4 65 #[V (-1),sn,V (-1),sn]]) (kQ R m s ++ []):=b;refine jY b ?_;have hQ:Da.ok (.wp (.l m.cA m.cC s.ctxs) (HP m.hp m.bs s.hnd)) _ _:=b.d 5 rfl;obtain ⟨hq1,hq2⟩:=hQ.2;refine sP rfl (fun h=>?_) (fun h=>?_)
 · cases hl:s.hnd.getLast? with
   | none=>rw [List.getLast?_eq_none_iff.1 hl] at h;simp at h
   | some hd=>
   rw [hl] at hm;have hl':s.hnd[s.hnd.length - 1]?=some hd:=by rw [List.getLast?_eq_getElem?] at hl;exact hl
   obtain ⟨ch,hch,hcb⟩:=hq2 _ _ hl';have hcap:=(b.bo 7 rfl).cap;have hlen:(Cx m.hp).length=s.hnd.length:=by rw [Dy,hq1]
   have hbd:s.hnd.length<=9223372036854775807:=by rw [hlen] at hcap;have:=rE hcap.1 hcap.2;simp only [maxLen] at this;omega
   refine jY b ?_;rw [UY hbd];have ho:=b.bo 7 rfl;have hA:=JQ ho (by rw [hlen];omega);refine kU (GZ (s.hnd.length - 1) hA underlying88 Tq rfl rfl (by omega) (by omega)) ?_;have hcell:w4.cell? ⟨mU m.hA,nS m.hA+(s.hnd.length - 1) * 1,none⟩=some (Pt ch):=by
    have hfl:(Cx m.hp).flatten=m.hp.map fun b=>Pt b:=by
     generalize m.hp=l
     induction l with
     | nil=>rfl
     | cons a l ih=>simp only [Cx,List.map_cons,Ay] at ih ⊢;rw [ih];rfl
    obtain ⟨g0,hg⟩:=ho.UO (by rw [hlen];omega);rw [hg] at ho ⊢;rw [hfl] at ho;have:=ho.cell (j:=s.hnd.length - 1) (v:=Pt ch) (by rw [BF,hch];rfl);simpa [mU,nS] using this
   refine gC rfl hcell rfl ?_;refine jY b ?_;refine qd (jL b [[V v]] ([v]:List Int) (W9 rfl) rfl rfl (by decide) ⟨rfl,trivial⟩) ?_;rintro _ w5 ⟨b5,rfl,b⟩;have b:Bx w w5 Z G (Low R m s ++ [.box b4 65 #[V (-1),sn,V (-1),sn]]) (kQ R m s ++ [.l (some ⟨b5,0,none⟩) 1 [v]]):=(b.Kt hZ 0 0 rfl rfl).ad [0,1,2,3,4,5,6,7,8,9] [1,2,3,4,5,6,7,8,9,10,0];refine Vp (Aq (i:=hd) (c:=ch) (first:=[v])) (jO Cu rfl) b hZ hB hcb hm (fun e A ce s m w1 hm hbs b=>?_) y1;refine kU (Go.Fw.GZ 0 underlying65 rJ rfl rfl rfl (by decide)) ?_;refine lg (t_n b 9 (cE e A ce) rfl rJ rfl rfl) fun w6 b=>?_;have b:Bx w w6 Z G (Low R m s ++ [.box b4 65 #[V e.b,.slice A e.a.length ce,V (-1),sn]]) (kQ R m s ++ [.l A ce e.a,.l (some ⟨b5,0,none⟩) 1 [v]]):=b;refine jY b ?_;refine kU (lI [V e.b,.slice A e.a.length ce,V (-1),sn] underlying65 WY rfl (b.bk 9 rfl)) ?_;refine kU (D5 (v:=.agg (cT ⟨1,0,0,[],⟨e,SG⟩⟩ none 0 A ce none 0).toArray) rfl (by kernel_rfl)) ?_;refine vv (k:=oD) IL (jO IZ rfl) (JH b) hZ hB kL (by rw [DK];exact hm) (fun s' m' w5 hm hbs2 b=>?_) (y3 (.head _) (.tail _ (.head _)) (.head _));cases hm;refine jY b ?_;refine lX ?_;exact nO rfl ⟨_,_,_,[],rfl,⟨rfl,rfl⟩,lM hbs hbs2,lf0 b⟩
 · have h0:s.hnd=[]:=List.eq_nil_of_length_eq_zero (by omega);rw [h0] at hm;dsimp only [List.getLast?] at hm;refine jY b ?_;refine kU (lI [V (-1),sn,V (-1),sn] underlying65 WY rfl (b.bk 9 rfl)) ?_;refine kU (D5 (v:=.agg (cT ⟨5,v,0,[],⟨SG,SG⟩⟩ none 0 none 0 none 0).toArray) rfl (by kernel_rfl)) ?_;refine vv (k:=oD) IL (jO IZ rfl) (JH b) hZ hB kL (by rw [DK];exact hm) (fun s' m' w5 hm hbs b=>?_) (y3 (.head _) (.head _) (.head _));cases hm;refine jY b ?_;exact nO rfl ⟨_,_,_,[],rfl,⟨rfl,rfl⟩,hbs,lf0 b⟩
def SB (w0:World)(Z G:Nat->Prop)(R:Rn)(st:Int × List (Int × Int))(X:List It)(Y:List Da)(u:World):Prop:=∃ m s,(s.stmt,s.omap)=st/\Bx w0 u Z G (Low R m s ++ X) (kQ R m s ++ Y)
section
variable {N:Fz}{ops:Array Oper}{S1 S:World->Prop}{T:List Nat}{K:KK}{n:Nat}{Lb:Array Bool}{f:Fr}{w w0:World}{Z G:Nat->Prop}{R:Rn}{st:Int × List (Int × Int)}{X:List It}{Y:List Da}{i:Nat}{d:Option Nat}{ty:TypeId}{pos:String}{af:Array Edge}{x:Operand}{v:Value}
theorem YR {Q:Post}{i:Nat}{m:zx}{s:Lw}(b:Bx w0 w Z G (Low R m s ++ X) (kQ R m s ++ Y))(T:List Nat)(k:Bx w0 w.drew Z G (Low R m s ++ X) (kQ R m s ++ Y)->SB w0 Z G R (s.stmt,s.omap) X Y w.drew->oL prog N ops (fun _=>True) (SB w0 Z G R (s.stmt,s.omap) X Y) T ⟨Q.n,Q.p⟩ ops.size (Array.replicate ops.size false) f w.drew)(hm:prog.follows .mixedOrders=true:=by kernel_rfl):WP prog N (.region i ops true) Q f w:=
 Pn _ _ T hm (k b.drew ⟨m,s,rfl,b.drew⟩)
theorem dSt (h:ev f x=.pointer (some ⟨R.lb,0+17,none⟩))(hS:Cm S1 T (SB w0 Z G R st X Y) Lb w)(k:oL prog N ops S1 (SB w0 Z G R st X Y) T K n (Lb.setIfInBounds i true) (lH f d (V st.1)) w)(hT:(T.all fun t=>SH ops 20 t i)=true:=by kernel_rfl):DS prog N ops S1 (SB w0 Z G R st X Y) T K (n+1) Lb i ⟨d,.load 3 x,ty,pos,af,none⟩ f w:=
 dU (fun ⟨m,s,hs,hu⟩=>by subst hs;exact yL h (hu.bk 0 rfl) rfl rfl rfl) hS k hT
theorem dSo (h:ev f x=.pointer (some ⟨R.lb,0+9,none⟩))(hS:Cm S1 T (SB w0 Z G R st X Y) Lb w)(k:oL prog N ops S1 (SB w0 Z G R st X Y) T K n (Lb.setIfInBounds i true) (lH f d (.map (some R.ob))) w)(hT:(T.all fun t=>SH ops 20 t i)=true:=by kernel_rfl):DS prog N ops S1 (SB w0 Z G R st X Y) T K (n+1) Lb i ⟨d,.load 86 x,ty,pos,af,none⟩ f w:=
 dU (fun ⟨m,s,hs,hu⟩=>yL h (hu.bk 0 rfl) rfl rfl rfl) hS k hT
theorem fkI:FK prog 3 Vj:=abm underlying3
theorem dSl {y:Operand}{v:Int}(h:ev f x=.map (some R.ob))(h2:ev f y=V v)(hS:Cm S1 T (SB w0 Z G R st X Y) Lb w)(k:oL prog N ops S1 (SB w0 Z G R st X Y) T K n (Lb.setIfInBounds i true) (lH f d (V ((rY st.2 v).getD 0))) w)(hT:(T.all fun t=>SH ops 20 t i)=true:=by kernel_rfl):DS prog N ops S1 (SB w0 Z G R st X Y) T K (n+1) Lb i ⟨d,.lookup 86 x y false,ty,pos,af,none⟩ f w:=
 dU (fun ⟨m,s,hs,hu⟩=>by subst hs;exact Ww (z:=0) (ev:=VN) (ek:=Vj) (k:=v) underlying86 fkI (ZY oW) (hu.mp 4 rfl) h h2) hS k hT
theorem dSk (j:Nat){t t' b o:Nat}{cs:Array Value}(h:ev f x=.pointer (some ⟨b,o,none⟩))(hj:X[j]?=some (.box b t' cs))(hi:cs[o]?=some v)(hs:ZB t=true)(hS:Cm S1 T (SB w0 Z G R st X Y) Lb w)(k:oL prog N ops S1 (SB w0 Z G R st X Y) T K n (Lb.setIfInBounds i true) (lH f d v) w)(ht:Nat.blt t RB=true:=by exact rfl)(hT:(T.all fun t=>SH ops 20 t i)=true:=by kernel_rfl):DS prog N ops S1 (SB w0 Z G R st X Y) T K (n+1) Lb i ⟨d,.load t x,ty,pos,af,none⟩ f w:=
 dU (fun ⟨m,s,_,hu⟩=>yL h (hu.bk (9+j) (by rw [Du (Nat.le_add_right 9 j)];show X[9+j - 9]?=_;rw [Nat.add_sub_cancel_left];exact hj)) hi hs ht) hS k hT
theorem oC {α β:Type}{H:zx->Prop}{g:FuncId}{args:Array Value}{mm:LM α}{Vv:zx->α->Value->List Da->Prop}{Yc:List Da}{m:zx}{s:Lw}{q:Lo β}{k:α->LM β}{oi:Oper}(hi:ops[i]?=some oi)(hg:oi.guard=none)(hc:Cw R H g args mm Vv Yc)(he:(execOp (ev f) oi).run prog w=.ok (.enter g args) w)(b:Bx w0 w Z G (Low R m s ++ X) (kQ R m s ++ Y))(hZ:∀ b,G b->Z b)(hB:R.B<=w0.heap.size)(hH:H m)(hm:(mm.bind k) s=some q)(kk:∀ a s' m' v ds w',mm s=some (.ok a s')->Vv m' a v ds->k a s'=some q->(∃ t,m'.bs=m.bs ++ t)->Bx w0 w' Z G (Low R m' s' ++ X) (kQ R m' s' ++ (ds ++ Y))->Cm S1 T S (Lb.setIfInBounds i true) w'/\oL prog N ops S1 S T K n (Lb.setIfInBounds i true) (lH f oi.dst v) w')(hY:∀ d ∈ Yc,d ∈ Y)(kp:∀ f ch w',Pb q ch->Bx w0 w' Z G [] []->K.p f ch w'):Cj prog N ops S1 S T K n Lb f w i:=
 afX hi (by rw [hg];rfl) he (XH hc b hZ hB hH hm hY) (fun ch w' h f=>kp f ch w' h.1 h.2) fun v w' ⟨a,s',m',ds,h0,h1,h2,h3,h4⟩=>kk a s' m' v ds w' h0 h2 h1 h3 h4
theorem Lu {β:Type}{m:zx}{s:Lw}{q:Lo β}{k:Nat->LM β}{oi:Oper}{fv:Nat}{stm:Int}(hi:ops[i]?=some oi)(hg:oi.guard=none)(he:(execOp (ev f) oi).run prog w=.ok (.enter 35 #[Pt R.lb,V stm]) w)(b:Bx w0 w Z G (Low R m s ++ X) (kQ R m s ++ Y))(hZ:∀ b,G b->Z b)(hB:R.B<=w0.heap.size)(hm:((sH (jI fv R.src) R.src.c stm).bind k) s=some q)(kk:∀ a c s' m' w',m'.bs[a]?=some c->k a s'=some q->(s'.stmt,s'.omap)=(s.stmt,s.omap)->(∃ t,m'.bs=m.bs ++ t)->Bx w0 w' Z G (Low R m' s' ++ X) (kQ R m' s' ++ Y)->Cm S1 T S (Lb.setIfInBounds i true) w'/\oL prog N ops S1 S T K n (Lb.setIfInBounds i true) (lH f oi.dst (Pt c)) w')(kp:∀ f ch w',Pb q ch->Bx w0 w' Z G [] []->K.p f ch w':=by exact fun _ _ _ h1 h2=>⟨h1,h2⟩):Cj prog N ops S1 S T K n Lb f w i:=
 oC hi hg Iw he b hZ hB kL hm (fun a s' m' v ds w' h0 h1 h2 h3 h4=>by
  obtain ⟨⟨c,h5,rfl⟩,rfl⟩:=h1;refine kk a c s' m' w' h5 h2 ?_ h3 h4;obtain ⟨l,_,h0⟩:=bs h0;obtain ⟨r,_,h0⟩:=bs h0;cases r with
  | none=>cases h0
  | some ps=>cases h0;rfl) yn kp
end
theorem RH {w0 w:World}{Z G':Nat->Prop}{R0:Rn}{st:Int × List (Int × Int)}{X:List It}{Y:List Da}{G R:Prop}(e:SB w0 Z G' R0 st X Y w)(k:R) (h:SB w0 Z G' R0 st X Y w->R->G:=by
 intro e k
 repeat
  first
  | refine BN 0 rfl ?_
  | refine BN 1 rfl ?_
  | refine BN 2 rfl ?_
  | refine BN 3 rfl ?_
  | refine BN 4 rfl ?_
  | refine BN 5 rfl ?_
  | refine BN 6 rfl ?_
  | refine BN 7 rfl ?_
  | refine BN 8 rfl ?_
  | refine BN 9 rfl ?_
  | refine BN 10 rfl ?_
  | refine BN 11 rfl ?_
  | refine BN 12 rfl ?_
  | refine BN 13 rfl ?_
  | refine BN 14 rfl ?_
  | refine BN 15 rfl ?_
  | refine BN 16 rfl ?_
  | refine BN 17 rfl ?_
  | refine BN 18 rfl ?_
  | refine BN 19 rfl ?_
  | refine BN 20 rfl ?_
  | refine BN 21 rfl ?_
  | refine BN 22 rfl ?_
  | refine BN 23 rfl ?_
  first
  | refine acT rfl (jK kL e) ?_
  | refine ad9 rfl (jK kL e) ?_
  | refine dNl rfl (jK kL e) ?_
  | refine dF rfl rfl (jK kL e) ?_
  | refine dSt rfl (jK kL e) ?_
  | refine dSo rfl (jK kL e) ?_
  | refine dSk 0 rfl rfl rfl rfl (jK kL e) ?_
  | refine dSk 1 rfl rfl rfl rfl (jK kL e) ?_
  | refine dN rfl rfl (jK kL e) ?_
  | refine acW rfl (jK kL e) ?_
  | refine ac5 rfl (jK kL e) ?_
  | refine adP rfl rfl (jK kL e) ?_
  | refine aeA rfl rfl (jK kL e) ?_
  | refine ada rfl (jK kL e) ?_
  | refine adQ rfl (jK kL e) ?_
 exact k):G:=h e k
theorem CV:jC prog 35:=⟨_,func35,by kernel_rfl,by kernel_rfl⟩
theorem Vs:jC prog 167:=⟨_,func167,by kernel_rfl,by kernel_rfl⟩
theorem XL:jC prog 168:=⟨_,func168,by kernel_rfl,by kernel_rfl⟩
theorem Xj:jC prog 169:=⟨_,func169,by kernel_rfl,by kernel_rfl⟩
theorem Oj:jC prog 143:=⟨_,func143,by kernel_rfl,by kernel_rfl⟩
theorem y2 {a b:Da}{Y:List Da}(h1:a ∈ Y)(h2:b ∈ Y):∀ d ∈ [a,b],d ∈ Y:=fun d hd=>by
 rcases oM.1 hd with rfl | hd
 · exact h1
 rw [List.mem_singleton.1 hd];exact h2
theorem abV {β:Type}{R:Rn}{i c:Nat}{w0 w:World}{Z G:Nat->Prop}{X:List It}{Y:List Da}{m:zx}{s:Lw}{q:Lo β}{k:ug->LM β}(b:Bx w0 w Z G (Low R m s ++ X) (kQ R m s ++ Y))(hZ:∀ b,G b->Z b)(hB:R.B<=w0.heap.size)(hH:m.bs[i]?=some c)(hm:((vY i []).bind k) s=some q) :Calls prog 142 #[Pt R.lb,Pt c,sn] w (RP (fun v w'=>∃ e s' m' A cc cs,v=.agg #[V e.b,.slice A e.a.length cc]/\k e s'=some q/\(∃ t,m'.bs=m.bs ++ t)/\Bx w0 w' Z G (Low R m' s' ++ (.own w0.heap.size A cc 3 (Rp.sz Int) cs :: X)) (kQ R m' s' ++ (.els cs e.a :: Y))) (fun ch w'=>Pb q ch/\Bx w0 w' Z G [] [])):=by
 obtain ⟨p,hp,hq⟩:=lbi hm;replace b:=JH b;have hpre:Pre w (HY w0 Z (Low R m s ++ X)) (Low R m s) (kQ R m s ++ [ln]):=b.pre fun d hd=>by
  refine b.da d ?_;rcases pX.1 hd with hd | hd
  · exact List.mem_append_left _ hd
  · rw [List.mem_singleton.1 hd];exact List.mem_append_right _ (Bl ..)
 have hsz:=b.tQ.size;refine (Q6 (a:=none) (cc:=0) (first:=[]) (hpre.bx.wid (Z':=Zg _ (mW (Low R m s))) fun b hb=>.inl hb) (fun b hb=>.inr hb) hH (rE hB hsz) hp).mono fun e w' he=>?_;cases e with
 | returned v=>
  obtain ⟨e,s',m',A,cc,cs,rfl,hv,hbs,hk⟩:=he;have b2:=(b.MV hZ hk).AR (D':=kQ R m' s' ++ (.els cs e.a :: Y)) fun d hd=>by
    rcases pX.1 hd with hd | hd
    · exact List.mem_append_left _ (yw _ hd)
    · rcases oM.1 hd with rfl | hd
      · exact List.mem_append_left _ (Bl ..)
      · exact List.mem_append_right _ (List.mem_append_right _ (yw _ hd))
  exact ⟨e,s',m',A,cc,cs,hv,hq,hbs,b2.reb 9 w0.heap.size rfl hsz⟩
 | panicked ch=>exact ⟨he.1.then hq,bno (b.MV hZ he.2)⟩
 | outgrown=>exact he.elim
theorem QF {R:Rn}{i c:Nat}:Cw R (fun m=>m.bs[i]?=some c) 167 #[Pt R.lb,Pt c] (Lm i) VE []:=by refine qh fun w Z G m0 s0 q b hZ hH hB hm=>?_;refine lq func167 rfl ?_;refine lK [(0,Pt R.lb),(1,Pt c)] ⟨rfl,rfl,trivial⟩ fun av=>?_;refine GV (yj ?_);refine EG b (jQ rJ) fun w1 b4 b=>?_;refine jY b ?_;have b:Bx w w1 Z G (Low R m0 s0 ++ [.box b4 64 #[V 0,sn]]) (kQ R m0 s0 ++ []):=b;refine sCP (jO Cu rfl) (abV b hZ hB hH hm) (fun ch w' h=>h) ?_;rintro _ w2 ⟨e,s,m,A,cc,cs,rfl,hm,hbs,b⟩;obtain ⟨args,hargs,hm⟩:=bs hm;cases hm;refine EG b (jQ rJ) fun w3 b5 b=>?_;refine lg (mQ b 11 (cE e A cc) rfl rJ rfl rfl) fun w4 b=>?_;have b:Bx w w4 Z G (Low R m s ++ [.own w.heap.size A cc 3 (Rp.sz Int) cs,.box b4 64 #[V 0,sn],.box b5 64 (cE e A cc).toArray]) (kQ R m s ++ [.els cs e.a]):=b;refine jY b ?_;refine F4 b [6,8] fun b=>?_;refine BD b ?_;refine hO 6 (oo rfl rfl (ku b 9 10 rfl rfl underlying22 oW rfl (by decide) (by decide) (mO _) rfl rfl (b.Bo 6 3 rfl rfl) hargs) ?_);rintro _ w5 ⟨A2,c2,cs2,rfl,b⟩;refine ⟨sy 6 kL,?_⟩;refine wZ 7 rfl ?_;refine dP (yF rfl rfl rfl rfl) (sy 6 kL) ?_;refine hO 8 (os rfl rfl (t_n b 11 [.slice A2 args.length c2] rfl Iq rfl rfl) fun w6 b=>⟨sy 6 kL,hD ?_⟩);refine jY b ?_;refine kU (lI [V e.b,.slice A2 args.length c2] underlying64 rJ rfl (b.bk 11 rfl)) ?_;refine lg (mQ b 10 [V e.b,.slice A2 args.length c2] rfl rJ rfl rfl) fun w7 b=>?_;refine jY b ?_;refine lX ?_;refine jN rfl (uI rfl underlying64 rfl rJ rfl (b.bk 10 rfl)) ⟨_,s,m,_,rfl,⟨A2,c2,rfl,rfl⟩,hbs,?_⟩;exact (b.Kt hZ 9 10 rfl rfl).ad [0,1,2,3,4,5,6,7,8] [0,1,2,3,4,5,6,7,8,9,10]
theorem Ng {R:Rn}{i c:Nat}:Cw R (fun m=>m.bs[i]?=some c) 169 #[Pt R.lb,Pt c] (Ik i) VU []:=by refine qh fun w Z G m s q b hZ hH hB hm=>?_;refine lq func169 rfl ?_;refine lK [(0,Pt R.lb),(1,Pt c)] ⟨rfl,rfl,trivial⟩ fun av=>?_;refine jY b ?_;refine vv (vS (i:=i) (c:=c)) (jO EJ rfl) b hZ hB hH hm fun s m w1 hm hbs b=>?_;refine jY b ?_;refine vv (k:=oD) WI (jO SE rfl) b hZ hB kL (by rw [DK];exact hm) fun s' m' w5 hm hbs2 b=>?_;cases hm;refine jY b ?_;exact nO rfl ⟨_,_,_,[],rfl,⟨rfl,rfl⟩,lM hbs hbs2,lf0 b⟩
theorem Pv {R:Rn}{i c:Nat}{n:Int}:Cw R (fun m=>m.bs[i]?=some c) 168 #[Pt R.lb,Pt c,V n] (GR i n) VU []:=by
 refine qh fun w Z G m s q b hZ hH hB hm=>?_;unfold GR at hm;refine lq func168 rfl ?_;refine lK [(0,Pt R.lb),(1,Pt c),(2,V n)] ⟨rfl,rfl,rfl,trivial⟩ fun av=>?_;refine jY b ?_;refine lg (t_n b 0 [sn] rfl Iq rfl rfl) fun w1 b=>?_;have b:Bx w w1 Z G (Low R { m with pA:=none,pC:=0,pc:=[] } { s with pend:=[] } ++ [.own R.B m.pA m.pC 3 1 m.pc]) (kQ R { m with pA:=none,pC:=0,pc:=[] } { s with pend:=[] } ++ [.els m.pc s.pend]):=
  ((b.EM Int 3).reb 0 R.B rfl hB).ad [1,2,3,4,5,6,0,8,9,7] [1,2,3,0,5,6,7,8,9,10,4]
 refine jY b ?_;refine vv (vS (i:=i) (c:=c)) (jO EJ rfl) b hZ hB hH hm fun s1 m1 w2 hm hbs b=>?_;refine jY b ?_;refine vv WI (jO SE rfl) b hZ hB kL hm fun s1 m1 w2 hm hbs2 b=>?_;replace hbs:=lM hbs hbs2;refine jY b ?_;refine QN uq (jO EX rfl) b hZ hB kL hm fun x s1 m1 w2 hm hbs2 b=>?_;replace hbs:=lM hbs hbs2;refine vv Rm (jO VQ rfl) b hZ hB kL hm fun s1 m1 w2 hm hbs2 b=>?_;replace hbs:=lM hbs hbs2;cases hm;refine jY b ?_;refine lg (t_n b 0 [.slice m.pA s.pend.length m.pC] rfl Iq rfl rfl) fun w3 b=>?_;refine jY b ?_;exact nO rfl ⟨_,_,{ m1 with pA:=m.pA,pC:=m.pC,pc:=m.pc },[],rfl,⟨rfl,rfl⟩,hbs,b.ad [0,1,2,3,4,5,9,7,8] [0,1,2,10,4,5,6,7,8,9]⟩
theorem Gp {R:Rn}{kind:Int}:Cw R (fun _=>True) 171 #[Pt R.lb,V kind] (BZ kind) VU []:=by refine qh fun w Z G m s q b hZ _ hB hm=>?_;refine lq func171 rfl ?_;refine lK [(0,Pt R.lb),(1,V kind)] ⟨rfl,rfl,trivial⟩ fun av=>?_;refine jY b ?_;refine QN I4 (jO Jc rfl) b hZ hB kL hm fun x s m w1 hm hbs b=>?_;refine jY b ?_;refine QN I4 (jO Jc rfl) b hZ hB kL hm fun y s m w1 hm hbs2 b=>?_;replace hbs:=lM hbs hbs2;refine jY b ?_;refine kU (D5 (v:=.agg (cO ⟨kind,0,y,x,0,0,0,0,wD⟩).toArray) rfl (by kernel_rfl)) ?_;refine QN zJ (jO GH rfl) b hZ hB kL hm fun x s m w1 hm hbs2 b=>?_;replace hbs:=lM hbs hbs2;refine vv (k:=oD) Fp (jO Ji rfl) b hZ hB kL (by rw [DK];exact hm) fun s' m' w5 hm hbs2 b=>?_;cases hm;refine jY b ?_;exact nO rfl ⟨_,_,_,[],rfl,⟨rfl,rfl⟩,lM hbs hbs2,lf0 b⟩
theorem WW {R:Rn}{fv:Nat}:Cw R (fun _=>True) 172 #[Pt R.lb] (OZ (jI fv R.src) R.src.c) VU []:=by
 refine qh fun w Z G m s q b hZ _ hB hm=>?_;obtain ⟨p,hp,hm⟩:=lbi hm;unfold Jo at hp;refine lq func172 rfl ?_;refine lK [(0,Pt R.lb)] ⟨rfl,trivial⟩ fun av=>?_;have hbd:s.pend.length<=9223372036854775807:=(b.vw 6 3 rfl rfl).bd;refine jY b ?_;refine F4 b [] fun b=>?_;refine BD b ?_;rw [UY hbd];cases hl:s.pend.getLast? with
 | none=>
  rw [hl] at hp;cases hp;cases hm;have h0:s.pend=[]:=List.getLast?_eq_none_iff.1 hl;refine hO 10 (wS rfl underlying22 rfl rfl (by rw [h0];simp) fun u w' hw _=>?_);exact prt b u w' hw
 | some v=>
 rw [hl] at hp;cases hp;obtain ⟨h1,h2⟩:=XB hl;refine wZ 10 rfl ?_;refine dP (kZ underlying22 oW rfl rfl (by omega) (b.vw 6 3 rfl rfl) h1) (jK kL b) ?_;refine wZ 11 rfl ?_;refine dU (v:=V v) (fun hu=>kC underlying3 rfl rfl ((vD (ds:=[V v]) (hu.vw 6 3 rfl rfl) h1 (fun _ h=>h)) 0 _ rfl)) (jK kL b) ?_;refine BD b ?_;refine hD ?_;refine jY b ?_;refine YR b [11] fun b e=>?_;refine RH e ?_;refine hO 5 (Lu (fv:=fv) rfl rfl (jO CV rfl) b hZ hB hm fun n1 c1 s1 m1 w1 hc1 hm hst hbs b=>?_);have e:SB w Z G R (s.stmt,s.omap) [] [] w1:=⟨m1,s1,hst,b⟩;refine ⟨jK kL e,?_⟩;unfold QE at hm;rw [(Zc hst).1] at hm;refine hO 11 (Lu (fv:=fv) rfl rfl (jO CV rfl) b hZ hB hm fun n2 c2 s2 m2 w2 hc2 hm hst2 hbs2 b=>?_);have e:SB w Z G R (s.stmt,s.omap) [] [] w2:=⟨m2,s2,hst2.trans hst,b⟩;have hc1:=uj hbs2 hc1;replace hbs:=lM hbs hbs2;refine ⟨jK kL e,?_⟩;refine RH e ?_;refine hD ?_;refine jY b ?_;refine Vp QF (jO Vs rfl) b hZ hB hc1 hm (fun yes A1 k1 s3 m3 w3 hm hbs2 b=>?_);have hc1:=uj hbs2 hc1;have hc2:=uj hbs2 hc2;replace hbs:=lM hbs hbs2;refine EG b (jQ rJ) fun w4 b5 b=>?_;refine lg (mQ b 9 (cE yes A1 k1) rfl rJ rfl rfl) fun w5 b=>?_;have b:Bx w w5 Z G (Low R m3 s3 ++ [.box b5 64 (cE yes A1 k1).toArray]) (kQ R m3 s3 ++ [.l A1 k1 yes.a]):=b;refine jY b ?_;refine Vp (Aq (a:=none) (cc:=0) (first:=[])) (jO Cu rfl) (JH b) hZ hB hc2 hm (fun no A2 k2 s3 m3 w3 hm hbs2 b=>?_) y1;have hc1:=uj hbs2 hc1;have hc2:=uj hbs2 hc2;replace hbs:=lM hbs hbs2;refine EG b (jQ rJ) fun w4 b6 b=>?_;refine lg (mQ b 10 (cE no A2 k2) rfl rJ rfl rfl) fun w5 b=>?_;have b:Bx w w5 Z G (Low R m3 s3 ++ [.box b5 64 (cE yes A1 k1).toArray,.box b6 64 (cE no A2 k2).toArray]) (kQ R m3 s3 ++ [.l A2 k2 no.a,ln,.l A1 k1 yes.a]):=b;refine jY b ?_;refine kU (lI (cE yes A1 k1) underlying64 rJ rfl (b.bk 9 rfl)) ?_
 refine kU (lI (cE no A2 k2) underlying64 rJ rfl (b.bk 10 rfl)) ?_;refine vv FC (jO Oj rfl) b hZ hB kL hm (fun s3 m3 w3 hm hbs2 b=>?_) (y2 (.tail _ (.tail _ (.head _))) (.head _));have hc1:=uj hbs2 hc1;have hc2:=uj hbs2 hc2;replace hbs:=lM hbs hbs2;refine jY b ?_;refine vv Pv (jO XL rfl) b hZ hB hc2 hm fun s3 m3 w3 hm hbs2 b=>?_;have hc1:=uj hbs2 hc1;replace hbs:=lM hbs hbs2;refine jY b ?_;refine vv (k:=oD) Ng (jO Xj rfl) b hZ hB hc1 (by rw [DK];exact hm) fun s' m' w5 hm hbs2 b=>?_;cases hm;refine jY b ?_;exact nO rfl ⟨_,_,_,[],rfl,⟨rfl,rfl⟩,lM hbs hbs2,lf0 b⟩
theorem Fa:jC prog 145:=⟨_,func145,by kernel_rfl,by kernel_rfl⟩
theorem IY:jC prog 111:=⟨_,func111,by kernel_rfl,by kernel_rfl⟩
abbrev cX (e:jB)(a:Option Addr)(c:Nat):List Value:=[V e.e,V e.d,V e.f,T e.c,T e.b,.slice a e.a.length c]
def CEx (R:Rn)(ex:jB->LM Unit):Prop:=∀ (e:jB)(a:Option Addr)(c:Nat),Cw R (fun _=>True) 145 #[Pt R.lb,.agg (cX e a c).toArray] (ex e) VU [.l a c e.a]
def CVl (R:Rn)(ex:jB->LM Int):Prop:=∀ (e:jB)(a:Option Addr)(c:Nat),Cw R (fun _=>True) 111 #[Pt R.lb,.agg (cX e a c).toArray] (ex e) VI [.l a c e.a]
def RN {α β:Type}(l:List α)(k:Nat)(f:α->LM β):LM β:=match l[k]? with
 | none=>lrt
 | some x=>f x
theorem Au {α β:Type}{l:List α}{f:α->LM β}:yt l f=RN l 0 f:=by cases l <;> rfl
theorem Zm {α β:Type}{l:List α}{f:α->LM β}:Yw l f=RN l 1 f:=by
 cases l with
 | nil=>rfl
 | cons a l=>cases l <;> rfl
section
variable {β:Type}{R:Rn}{w0 w:World}{Z G:Nat->Prop}{X:List It}{Y:List Da}{m:zx}{s:Lw}{q:Lo β}
theorem FI {d:Da}(b:Bx w0 w Z G (Low R m s ++ X) (d :: (kQ R m s ++ Y))):Bx w0 w Z G (Low R m s ++ X) (kQ R m s ++ (d :: Y)):=b.AR fun x hd=>by
 rcases pX.1 hd with hd | hd
 · exact yw _ (List.mem_append_left _ hd)
 · rcases oM.1 hd with rfl | hd
   · exact Bl ..
   · exact yw _ (List.mem_append_right _ hd)
theorem ade {d:Da}(b:Bx w0 w Z G (Low R m s ++ X) (kQ R m s ++ (d :: Y))):Bx w0 w Z G (Low R m s ++ X) (kQ R m s ++ Y):=b.AR fun x hd=>by
 rcases pX.1 hd with hd | hd
 · exact List.mem_append_left _ hd
 · exact List.mem_append_right _ (yw _ hd)
theorem aa0 {j:Nat}{d:Da}(hj:Y[j]?=some d):(kQ R m s ++ Y)[10+j]?=some d:=by rw [Du (Nat.le_add_right 10 j)];show Y[10+j - 10]?=_;rw [Nat.add_sub_cancel_left];exact hj
variable {N:Fz}{ops:Array Oper}{K:KK}{rest:List Oper}{f:Fr}{p1 p2:Nat}{d:Option Nat}{op:Op}{ty ty2 ty3:TypeId}{pos pos2 pos3:String}{af af2 af3:Array Edge}{y z:Operand}
theorem acS {α:Type}{g:FuncId}{ex:jB->LM α}{VV:zx->α->Value->List Da->Prop}{kont:α->LM β}{j k:Nat}{a:Option Addr}{c:Nat}{l:List jB}(hE:∀ (e:jB) (a:Option Addr) (c:Nat),Cw R (fun _=>True) g #[Pt R.lb,.agg (cX e a c).toArray] (ex e) VV [.l a c e.a])(b:Bx w0 w Z G (Low R m s ++ X) (kQ R m s ++ Y))(hZ:∀ b,G b->Z b)(hB:R.B<=w0.heap.size)(hj:Y[j]?=some (.l a c l))(hm:((RN l k ex).bind kont) s=some q)(h1:ev f y=.slice a l.length c)(h2:ev f z=V (k:Int))(he:∀ A v w',(execOp (ev (lH (lH f (some p1) A) (some p2) v)) ⟨d,op,ty3,pos3,af3,none⟩).run prog w'=.ok (.enter g #[Pt R.lb,v]) w')(kk:∀ r s' m' A v1 v ds w',VV m' r v ds->kont r s'=some q->(∃ t,m'.bs=m.bs ++ t)->Bx w0 w' Z G (Low R m' s' ++ X) (kQ R m' s' ++ (ds ++ Y))->o8 prog N ops K rest (lH (lH (lH f (some p1) A) (some p2) v1) d v) w')(kp:∀ f ch w',Pb q ch->Bx w0 w' Z G [] []->K.p f ch w') :o8 prog N ops K (⟨some p1,.indexAddr 113 y z,ty,pos,af,none⟩ :: ⟨some p2,.load 166 (.tmp p1),ty2,pos2,af2,none⟩ :: ⟨d,op,ty3,pos3,af3,none⟩ :: rest) f w:=by
 unfold RN at hm;cases hx:l[k]? with
 | none=>
  rw [hx] at hm;cases hm;exact Xy underlying113 h1 h2 (by have:=List.getElem?_eq_none_iff.1 hx;omega) fun u w' hw=>kp _ _ _ (prt (α:=β) b u w' hw).1 (prt (α:=β) b u w' hw).2
 | some x=>
  rw [hx] at hm;obtain ⟨cs,hr,e2⟩:=b.nm (10+j) (aa0 hj) hx;obtain ⟨a2,c2,rfl,hd⟩:=jB.out hr;have e3:=e2.jX (d:=.l a2 c2 x.a) hd;refine kU (kZ underlying113 jU h1 h2 rfl (b.dl (10+j) (aa0 hj)) hx) ?_;refine kU (nT (cX x a2 c2) underlying166 rfl jU rfl (by simp [ev,lH,upd]) (e3.dc 1 rfl)) ?_;have e4:Bx w0 w Z G (Low R m s ++ X) (.l a2 c2 x.a :: (kQ R m s ++ Y)):=e3.AR fun d hd=>by
    rcases oM.1 hd with rfl | hd
    · exact Bl ..
    · exact yw _ (yw _ hd)
  refine lC (hE x a2 c2) (he _ _ _) (FI e4) hZ hB kL hm (fun r s' m' v ds w' h1 h2 h3 h4=>kk r s' m' _ _ v ds w' h1 h2 h3 (h4.AR fun d hd=>?_)) y1 (kp _);rcases pX.1 hd with hd | hd
  · exact List.mem_append_left _ hd
  · rcases pX.1 hd with hd | hd
    · exact List.mem_append_right _ (List.mem_append_left _ hd)
    · exact List.mem_append_right _ (List.mem_append_right _ (yw _ hd))
theorem QK {ex:jB->LM Unit}{kont:Unit->LM β}{j k:Nat}{a:Option Addr}{c:Nat}{l:List jB}(hE:CEx R ex)(b:Bx w0 w Z G (Low R m s ++ X) (kQ R m s ++ Y))(hZ:∀ b,G b->Z b)(hB:R.B<=w0.heap.size)(hj:Y[j]?=some (.l a c l))(hm:((RN l k ex).bind kont) s=some q)(h1:ev f y=.slice a l.length c)(h2:ev f z=V (k:Int))(he:∀ A v w',(execOp (ev (lH (lH f (some p1) A) (some p2) v)) ⟨d,op,ty3,pos3,af3,none⟩).run prog w'=.ok (.enter 145 #[Pt R.lb,v]) w')(kk:∀ s' m' A v1 w',kont () s'=some q->(∃ t,m'.bs=m.bs ++ t)->Bx w0 w' Z G (Low R m' s' ++ X) (kQ R m' s' ++ Y)->o8 prog N ops K rest (lH (lH (lH f (some p1) A) (some p2) v1) d (.tuple #[])) w')(kp:∀ f ch w',Pb q ch->Bx w0 w' Z G [] []->K.p f ch w':=by exact fun _ _ _ h1 h2=>⟨h1,h2⟩) :o8 prog N ops K (⟨some p1,.indexAddr 113 y z,ty,pos,af,none⟩ :: ⟨some p2,.load 166 (.tmp p1),ty2,pos2,af2,none⟩ :: ⟨d,op,ty3,pos3,af3,none⟩ :: rest) f w:=
 acS hE b hZ hB hj hm h1 h2 he (fun r s' m' A v1 v ds w' h1 h2 h3 h4=>by obtain ⟨rfl,rfl⟩:=h1;exact kk s' m' A v1 w' h2 h3 h4) kp
theorem PY {ex:jB->LM Int}{kont:Int->LM β}{j k:Nat}{a:Option Addr}{c:Nat}{l:List jB}(hE:CVl R ex)(b:Bx w0 w Z G (Low R m s ++ X) (kQ R m s ++ Y))(hZ:∀ b,G b->Z b)(hB:R.B<=w0.heap.size)(hj:Y[j]?=some (.l a c l))(hm:((RN l k ex).bind kont) s=some q)(h1:ev f y=.slice a l.length c)(h2:ev f z=V (k:Int))(he:∀ A v w',(execOp (ev (lH (lH f (some p1) A) (some p2) v)) ⟨d,op,ty3,pos3,af3,none⟩).run prog w'=.ok (.enter 111 #[Pt R.lb,v]) w')(kk:∀ r s' m' A v1 w',kont r s'=some q->(∃ t,m'.bs=m.bs ++ t)->Bx w0 w' Z G (Low R m' s' ++ X) (kQ R m' s' ++ Y)->o8 prog N ops K rest (lH (lH (lH f (some p1) A) (some p2) v1) d (V r)) w')(kp:∀ f ch w',Pb q ch->Bx w0 w' Z G [] []->K.p f ch w':=by exact fun _ _ _ h1 h2=>⟨h1,h2⟩) :o8 prog N ops K (⟨some p1,.indexAddr 113 y z,ty,pos,af,none⟩ :: ⟨some p2,.load 166 (.tmp p1),ty2,pos2,af2,none⟩ :: ⟨d,op,ty3,pos3,af3,none⟩ :: rest) f w:=
 acS hE b hZ hB hj hm h1 h2 he (fun r s' m' A v1 v ds w' h1 h2 h3 h4=>by obtain ⟨rfl,rfl⟩:=h1;exact kk r s' m' A v1 w' h2 h3 h4) kp
end
theorem QH {R:Rn}{fv:Nat}{ex:jB->LM Unit}(hE:CEx R ex){e:jB}{a:Option Addr}{c:Nat}:Cw R (fun _=>True) 144 #[Pt R.lb,.agg (cX e a c).toArray] (IQ (jI fv R.src) R.src.c ex e) VU [.l a c e.a]:=by
 refine qh fun w Z G m s q b hZ _ hB hm=>?_;unfold IQ at hm;rw [Au] at hm;refine lq func144 rfl ?_;refine lK [(0,Pt R.lb),(1,.agg (cX e a c).toArray)] ⟨rfl,rfl,trivial⟩ fun av=>?_;refine GV (yj ?_);refine EG b (uZ rfl) fun w1 b3 b=>?_;have b:Bx w w1 Z G (Low R m s ++ [.box b3 166 (cX e a c).toArray]) (kQ R m s ++ [.l a c e.a]):=b;refine jY b ?_;refine QK hE b hZ hB (j:=0) rfl hm rfl rfl (fun _ _ _=>jO Fa rfl) fun s m A v1 w1 hm hbs b=>?_;obtain ⟨p,hp,hm⟩:=lbi hm;unfold Jo at hp;have hbd:s.pend.length<=9223372036854775807:=(b.vw 6 3 rfl rfl).bd;refine jY b ?_;refine F4 b [] fun b=>?_;refine BD b ?_;rw [UY hbd];cases hl:s.pend.getLast? with
 | none=>
  rw [hl] at hp;cases hp;cases hm;have h0:s.pend=[]:=List.getLast?_eq_none_iff.1 hl;refine hO 10 (wS rfl underlying22 rfl rfl (by rw [h0];simp) fun u w' hw _=>?_);exact prt b u w' hw
 | some v=>
 rw [hl] at hp;cases hp;obtain ⟨h1,h2⟩:=XB hl;refine wZ 10 rfl ?_;refine dP (kZ underlying22 oW rfl rfl (by omega) (b.vw 6 3 rfl rfl) h1) (jK kL b) ?_;refine wZ 11 rfl ?_;refine dU (v:=V v) (fun hu=>kC underlying3 rfl rfl ((vD (ds:=[V v]) (hu.vw 6 3 rfl rfl) h1 (fun _ h=>h)) 0 _ rfl)) (jK kL b) ?_;refine BD b ?_;refine hD ?_;refine jY b ?_;refine QN uq (jO EX rfl) b hZ hB kL hm fun z s m w1 hm hbs2 b=>?_;replace hbs:=lM hbs hbs2;refine jY b ?_;refine kU (D5 (v:=.agg (cO ⟨11,0,v,z,0,0,0,0,wD⟩).toArray) rfl (by kernel_rfl)) ?_;refine QN zJ (jO GH rfl) b hZ hB kL hm fun below s m w1 hm hbs2 b=>?_;replace hbs:=lM hbs hbs2;refine jY b ?_;unfold NJ at hm;cases hvs:ix? R.src.c s.f with
 | none=>
  rw [hvs] at hm;cases hm;refine F4 b [17] fun b=>?_;refine BD b ?_;refine hO 10 (wS rfl underlying27 rfl rfl (qU hvs) fun u w' hw _=>?_);exact prt b u w' hw
 | some vs=>
 rw [hvs] at hm;obtain ⟨kf,hkf,hvk⟩:=Wn hvs;obtain ⟨cs0,hr0,b⟩:=b.nm 8 rfl hvk;obtain ⟨a5,c5,rfl,hv5⟩:=hr0;replace b:=FI (FI b |>.jX (d:=.l a5 c5 vs) hv5);refine F4 b [17] fun b=>?_;refine BD b ?_;refine wZ 10 rfl ?_;refine dP (kZ underlying27 Em rfl rfl hkf (b.dl 8 rfl) hvk) (jK kL b) ?_;refine wZ 11 rfl ?_;refine dU (fun hu=>kC underlying53 rfl rfl ((hu.dc 11 rfl) 0 _ rfl)) (jK kL b) ?_;refine BD b ?_;cases hx:ix? vs e.f with
 | none=>
  rw [Option.bind_some,hx] at hm;cases hm;refine hO 14 (wS rfl underlying53 rfl rfl (qU hx) fun u w' hw _=>?_);exact prt b u w' hw
 | some x=>
 rw [Option.bind_some,hx] at hm;obtain ⟨kx,hkx,hxk⟩:=Wn hx;refine wZ 14 rfl ?_;refine dP (kZ underlying53 uo rfl rfl hkx (b.dl 10 rfl) hxk) (jK kL b) ?_;refine wZ 15 rfl ?_;refine dP (yF rfl rfl rfl rfl) (jK kL b) ?_;refine wZ 16 rfl ?_;refine dU (fun hu=>yC rfl ((vD (ds:=cV x) (hu.dl 10 rfl) hxk (fun _ h=>h)) 3 _ rfl) rfl rfl) (jK kL b) ?_;refine hO 17 (oC rfl rfl uq (jO EX rfl) b hZ hB kL hm (fun n s' m' v' ds w2 _ h1 hm hbs2 b=>?_) yn fun _ _ _ h1 h2=>⟨h1,h2⟩);obtain ⟨rfl,rfl⟩:=h1;replace hbs:=lM hbs hbs2;refine ⟨sy 17 kL,?_⟩;refine wZ 18 rfl ?_;refine dP (Xx rfl) (sy 17 kL) ?_;refine hD ?_;have b:Bx w w2 Z G (Low R m' s' ++ [.box b3 166 (cX e a c).toArray]) (kQ R m' s' ++ [.l a c e.a]):=lY b [0] [2];refine jY b ?_;refine kU (D5 (v:=.agg (cO ⟨12,0,n,v,0,0,0,0,wD⟩).toArray) rfl (by kernel_rfl)) ?_;refine QN zJ (jO GH rfl) b hZ hB kL hm fun above s m w1 hm hbs2 b=>?_;replace hbs:=lM hbs hbs2;refine jY b ?_;refine kU (D5 (v:=.agg (cO ⟨9,0,below,above,0,0,0,0,wD⟩).toArray) rfl (by kernel_rfl)) ?_;refine QN zJ (jO GH rfl) b hZ hB kL hm fun out s m w1 hm hbs2 b=>?_;replace hbs:=lM hbs hbs2;refine jY b ?_;refine YR b [11] fun b eS=>?_;refine RH eS ?_;refine hO 5 (Lu (fv:=fv) rfl rfl (jO CV rfl) b hZ hB hm fun n1 c1 s1 m1 w1 hc1 hm hst hbs2 b=>?_);have eS:SB w Z G R (s.stmt,s.omap) _ _ w1:=⟨m1,s1,hst,b⟩;replace hbs:=lM hbs hbs2;refine ⟨jK kL eS,?_⟩;unfold QE at hm;rw [(Zc hst).1] at hm;refine hO 11 (Lu (fv:=fv) rfl rfl (jO CV rfl) b hZ hB hm fun n2 c2 s2 m2 w2 hc2 hm hst2 hbs2 b=>?_);have eS:SB w Z G R (s.stmt,s.omap) _ _ w2:=⟨m2,s2,hst2.trans hst,b⟩;have hc1:=uj hbs2 hc1;replace hbs:=lM hbs hbs2;refine ⟨jK kL eS,?_⟩;refine RH eS ?_;refine hD ?_;refine jY b ?_
 refine Vp (Aq (a:=none) (cc:=0) (first:=[])) (jO Cu rfl) (JH b) hZ hB hc2 hm (fun yes A1 k1 s3 m3 w3 hm hbs2 b=>?_) y1;have hc1:=uj hbs2 hc1;have hc2:=uj hbs2 hc2;replace hbs:=lM hbs hbs2;refine EG b (jQ rJ) fun w4 b5 b=>?_;refine lg (mQ b 10 (cE yes A1 k1) rfl rJ rfl rfl) fun w5 b=>?_;have b:Bx w w5 Z G (Low R m3 s3 ++ [.box b3 166 (cX e a c).toArray,.box b5 64 (cE yes A1 k1).toArray]) (kQ R m3 s3 ++ [.l A1 k1 yes.a]):=b.ad [0,1,2,3,4,5,6,7,8,9,10] [0,1,2,3,4,5,6,7,8,9,10];refine jY b ?_;refine Vp QF (jO Vs rfl) b hZ hB hc1 hm (fun no A2 k2 s3 m3 w3 hm hbs2 b=>?_);have hc1:=uj hbs2 hc1;have hc2:=uj hbs2 hc2;replace hbs:=lM hbs hbs2;refine EG b (jQ rJ) fun w4 b6 b=>?_;refine lg (mQ b 11 (cE no A2 k2) rfl rJ rfl rfl) fun w5 b=>?_;have b:Bx w w5 Z G (Low R m3 s3 ++ [.box b3 166 (cX e a c).toArray,.box b5 64 (cE yes A1 k1).toArray,.box b6 64 (cE no A2 k2).toArray]) (kQ R m3 s3 ++ [.l A2 k2 no.a,.l A1 k1 yes.a]):=b;refine jY b ?_;refine kU (lI (cE yes A1 k1) underlying64 rJ rfl (b.bk 10 rfl)) ?_;refine kU (lI (cE no A2 k2) underlying64 rJ rfl (b.bk 11 rfl)) ?_;refine vv FC (jO Oj rfl) b hZ hB kL hm (fun s3 m3 w3 hm hbs2 b=>?_) (y2 (.tail _ (.head _)) (.head _));have hc1:=uj hbs2 hc1;have hc2:=uj hbs2 hc2;replace hbs:=lM hbs hbs2;refine jY b ?_;refine vv Pv (jO XL rfl) b hZ hB hc2 hm fun s3 m3 w3 hm hbs2 b=>?_;have hc1:=uj hbs2 hc1;replace hbs:=lM hbs hbs2;refine jY b ?_;refine vv (k:=oD) Ng (jO Xj rfl) b hZ hB hc1 (by rw [DK];exact hm) fun s' m' w5 hm hbs2 b=>?_;cases hm;refine jY b ?_;exact nO rfl ⟨_,_,_,[],rfl,⟨rfl,rfl⟩,lM hbs hbs2,lf0 b⟩
theorem SK:jC prog 108:=⟨_,func108,by kernel_rfl,by kernel_rfl⟩
theorem XW:jC prog 144:=⟨_,func144,by kernel_rfl,by kernel_rfl⟩
theorem SQ:jC prog 171:=⟨_,func171,by kernel_rfl,by kernel_rfl⟩
theorem abb:jC prog 172:=⟨_,func172,by kernel_rfl,by kernel_rfl⟩
theorem Gd {w:World}{e:jB}{a:Option Addr}{c:Nat}:Calls prog 108 #[.agg (cX e a c).toArray] w (tV fun v w'=>v=.agg (cP (BG e)).toArray/\Ext w w'):=by
 have b:Bx w w (fun _=>True) (mW []) [] []:=Pre.bx ⟨fun _ h=>(by cases h),fun _ h=>(by cases h),List.Pairwise.nil,fun _ h=>(by cases h)⟩;refine cf func108 rfl ?_;refine lK [(0,.agg (cX e a c).toArray)] ⟨rfl,trivial⟩ fun av=>?_;refine GV (yj ?_);refine sW b (uZ rfl) fun w1 b1 b=>?_;refine sW b (jQ AJ) fun w2 b2 b=>?_;refine goC b ?_;refine sP rfl (fun h=>?_) (fun h=>?_)
 · refine goC b ?_;refine kU (D5 (v:=.agg (cP (e.f,e.d)).toArray) rfl (by kernel_rfl)) ?_;refine lg (mQ b 0 (cP (e.f,e.d)) rfl AJ rfl rfl) fun w3 b=>?_;refine goC b ?_;refine lX ?_;refine jN rfl (uI rfl underlying172 rfl AJ rfl (b.bk 0 rfl)) ⟨?_,(b.ad [] []).ex⟩;unfold BG;rw [lG h]
 · refine goC b ?_;refine kU (D5 (v:=.agg (cP (e.f,0)).toArray) rfl (by kernel_rfl)) ?_;refine lg (mQ b 0 (cP (e.f,0)) rfl AJ rfl rfl) fun w3 b=>?_;refine goC b ?_;refine lX ?_;refine jN rfl (uI rfl underlying172 rfl AJ rfl (b.bk 0 rfl)) ⟨?_,(b.ad [] []).ex⟩;unfold BG;rw [lD h]
theorem G7 {R:Rn}{fv:Nat}:∀ fu,CEx R (lexpr (jI fv R.src) R.src.c fu)
 | 0=>fun e a c=>qh fun w Z G m s q b hZ _ hB hm=>by cases hm
 | fu+1=>fun e a c=>by
  have hE:=G7 (R:=R) (fv:=fv) fu;refine qh fun w Z G m s q b hZ _ hB hm=>?_;rw [lexpr] at hm;refine lq func145 rfl ?_;refine lK [(0,Pt R.lb),(1,.agg (cX e a c).toArray)] ⟨rfl,rfl,trivial⟩ fun av=>?_;refine GV (yj ?_);refine EG b (uZ rfl) fun w1 b3 b=>?_;have b:Bx w w1 Z G (Low R m s ++ [.box b3 166 (cX e a c).toArray]) (kQ R m s ++ [.l a c e.a]):=b;refine jY b ?_;refine sP rfl (fun h=>?_) (fun h=>?_)
  · rw [lG h] at hm;refine jY b ?_;refine QN uq (jO EX rfl) b hZ hB kL hm fun z s m w1 hm hbs b=>?_;refine vv (k:=oD) Fp (jO Ji rfl) b hZ hB kL (by rw [DK];exact hm) fun s' m' w5 hm hbs2 b=>?_;cases hm;refine jY b ?_;exact nO rfl ⟨_,_,_,[],rfl,⟨rfl,rfl⟩,lM hbs hbs2,lf0 b⟩
  rw [lD h] at hm;refine jY b ?_;refine qK (fun f' w'=>w'=w1/\Has f' [(0,Pt R.lb),(3,Pt b3),(5,V e.e),(42,.bool (decide (e.e=1\/e.e=2)))]) (fun J hJ=>?_) ?_
  · by_cases h1:e.e=1
    · refine jM (bt h1) ?_;refine jY b ?_;exact hJ _ _ ⟨rfl,rfl,rfl,rfl,congrArg Value.bool (by simp [h1]),trivial⟩
    · refine jD (bf h1) ?_;refine jY b ?_;exact hJ _ _ ⟨rfl,rfl,rfl,rfl,congrArg Value.bool (by simp [h1]),trivial⟩
  rintro f' _ ⟨rfl,hf⟩;obtain ⟨av2,rfl⟩:=lu _ _ hf;clear hf;refine sP rfl (fun h2=>?_) (fun h2=>?_)
  · rw [lG h2] at hm;obtain ⟨l,hl,hm⟩:=bs hm;refine jY b ?_;refine F4 b [8] fun b=>?_;refine BD b ?_;refine wZ 5 rfl ?_;refine dU (fun hu=>lI (cX e a c) underlying166 jU rfl (hu.bk 9 rfl)) (jK kL b) ?_;refine hO 6 (oc rfl rfl (jO SK rfl) Gd ?_);rintro _ w2 ⟨rfl,hx⟩;replace b:=b.ext hx;refine ⟨jK kL b,?_⟩;refine wZ 7 rfl ?_;refine dU (fun hu=>ady (hu.at 5 rfl) hl rfl rfl) (jK kL b) ?_;refine hO 8 (oC (k:=oD) rfl rfl Fp (jO Ji rfl) b hZ hB kL (by rw [DK];exact hm) (fun _ s' m' v' ds w3 _ h1 hm hbs b=>?_) yn fun _ _ _ h1 h2=>⟨h1,h2⟩);obtain ⟨rfl,rfl⟩:=h1;cases hm;refine ⟨sy 8 kL,hD ?_⟩;refine jY b ?_;exact nO rfl ⟨_,_,_,[],rfl,⟨rfl,rfl⟩,hbs,lf0 b⟩
  rw [lD h2] at hm;refine jY b ?_;refine sP rfl (fun h3=>?_) (fun h3=>?_)
  · rw [lG h3] at hm;refine jY b ?_;refine kU (lI (cX e a c) underlying166 jU rfl (b.bk 9 rfl)) ?_;refine vv (QH hE) (jO XW rfl) b hZ hB kL hm (fun s m w1 hm hbs b=>?_) y1;refine jY b ?_;refine YR b [12] fun b eS=>?_;refine RH eS ?_;refine wZ 10 rfl ?_;refine dSl rfl rfl (jK kL eS) ?_;refine hO 3 (oC rfl rfl I4 (jO Jc rfl) b hZ hB kL hm (fun x s' m' v' ds w3 h0 h1 hm hbs2 b=>?_) yn fun _ _ _ h1 h2=>⟨h1,h2⟩);obtain ⟨rfl,rfl⟩:=h1;have hk:(s'.stmt,s'.omap)=(s.stmt,s.omap):=by
      unfold Gb at h0;split at h0
      · cases h0
      · cases h0;rfl
    have eS:SB w Z G R (s.stmt,s.omap) _ _ w3:=⟨m',s',hk,b⟩;replace hbs:=lM hbs hbs2;refine ⟨jK kL eS,?_⟩;unfold Rh at hm;rw [(Zc hk).2] at hm;refine wZ 11 rfl ?_;refine dP (D5 (v:=.agg (cO ⟨15,0,x,0,(rY s.omap e.f).getD 0,0,0,0,wD⟩).toArray) rfl (by kernel_rfl)) (jK kL eS) ?_;refine hO 12 (oC rfl rfl zJ (jO GH rfl) b hZ hB kL hm (fun x s' m' v' ds w3 h0 h1 hm hbs2 b=>?_) yn fun _ _ _ h1 h2=>⟨h1,h2⟩);obtain ⟨rfl,rfl⟩:=h1;replace hbs:=lM hbs hbs2;refine ⟨sy 12 kL,?_⟩;refine hO 13 (oC (k:=oD) rfl rfl Fp (jO Ji rfl) b hZ hB kL (by rw [DK];exact hm) (fun _ s' m' v' ds w3 _ h1 hm hbs2 b=>?_) yn fun _ _ _ h1 h2=>⟨h1,h2⟩);obtain ⟨rfl,rfl⟩:=h1;cases hm;refine ⟨sy 12 kL,hD ?_⟩;refine jY b ?_;exact nO rfl ⟨_,_,_,[],rfl,⟨rfl,rfl⟩,lM hbs hbs2,lf0 b⟩
  rw [lD h3] at hm;refine jY b ?_;refine sP rfl (fun h4=>?_) (fun h4=>?_)
  · rw [lG h4,YI,Au] at hm;refine jY b ?_;refine QN uq (jO EX rfl) b hZ hB kL hm fun z s m w1 hm hbs b=>?_;refine vv Fp (jO Ji rfl) b hZ hB kL hm fun s m w1 hm hbs2 b=>?_;replace hbs:=lM hbs hbs2;refine jY b ?_;refine QK hE b hZ hB (j:=0) rfl hm rfl rfl (fun _ _ _=>jO Fa rfl) fun s m A v1 w1 hm hbs2 b=>?_;replace hbs:=lM hbs hbs2;refine jY b ?_;refine vv (k:=oD) Gp (jO SQ rfl) b hZ hB kL (by rw [DK];exact hm) fun s' m' w5 hm hbs2 b=>?_;cases hm;refine jY b ?_;exact nO rfl ⟨_,_,_,[],rfl,⟨rfl,rfl⟩,lM hbs hbs2,lf0 b⟩
  rw [lD h4] at hm;refine jY b ?_;refine sP rfl (fun h5=>?_) (fun h5=>?_)
  · rw [lG h5,Au] at hm;refine jY b ?_;refine QK hE b hZ hB (j:=0) rfl hm rfl rfl (fun _ _ _=>jO Fa rfl) fun s m A v1 w1 hm hbs b=>?_;rw [YI] at hm;refine jY b ?_;refine QN uq (jO EX rfl) b hZ hB kL hm fun z s m w1 hm hbs2 b=>?_;replace hbs:=lM hbs hbs2;refine vv Fp (jO Ji rfl) b hZ hB kL hm fun s m w1 hm hbs2 b=>?_;replace hbs:=lM hbs hbs2;refine jY b ?_;refine vv (k:=oD) Gp (jO SQ rfl) b hZ hB kL (by rw [DK];exact hm) fun s' m' w5 hm hbs2 b=>?_;cases hm;refine jY b ?_;exact nO rfl ⟨_,_,_,[],rfl,⟨rfl,rfl⟩,lM hbs hbs2,lf0 b⟩
  rw [lD h5,Au] at hm;refine jY b ?_;refine QK hE b hZ hB (j:=0) rfl hm rfl rfl (fun _ _ _=>jO Fa rfl) fun s m A v1 w1 hm hbs b=>?_;rw [Zm] at hm;refine jY b ?_;refine QK hE b hZ hB (j:=0) rfl hm rfl rfl (fun _ _ _=>jO Fa rfl) fun s m A v1 w1 hm hbs2 b=>?_;replace hbs:=lM hbs hbs2;clear hbs2;refine Og ?_;repeat refine GV ?_
  refine qK (fun f' w'=>w'=w1/\Has f' [(0,Pt R.lb),(3,Pt b3),(25,.bool (decide (e.e=9\/e.e=10)))]) (fun J hJ=>?_) ?_
  · by_cases h9:e.e=9
    · refine yj ?_;refine jY b ?_;rw [IX h9];refine jY b ?_;exact hJ _ _ ⟨rfl,rfl,rfl,congrArg Value.bool (by simp [h9]),trivial⟩
    · refine yj ?_;refine jY b ?_;rw [Ja h9];refine jY b ?_;exact hJ _ _ ⟨rfl,rfl,rfl,congrArg Value.bool (by simp [h9]),trivial⟩
  rintro f' _ ⟨rfl,hf⟩;obtain ⟨av3,rfl⟩:=lu _ _ hf;clear hf;repeat refine GV ?_
  refine qK (fun f' w'=>Has f' [(0,Pt R.lb),(3,Pt b3)]/\∃ s' m',(∃ t,m'.bs=m.bs ++ t)/\Bx w w' Z G (Low R m' s' ++ [.box b3 166 (cX e a c).toArray]) (kQ R m' s' ++ [.l a c e.a])/\BZ (wr (wr (e.e - 6)+3)) s'=some q) (fun J hJ=>?_) ?_
  · refine sP rfl (fun hc=>?_) (fun hc=>?_)
    · rw [lG hc] at hm;refine jY b ?_;refine vv WW (jO abb rfl) b hZ hB kL hm fun s' m' w5 hm hbs2 b=>?_;refine jY b ?_;exact hJ _ _ ⟨⟨rfl,rfl,trivial⟩,s',m',hbs2,b,hm⟩
    · rw [lD hc] at hm;refine jY b ?_;exact hJ _ _ ⟨⟨rfl,rfl,trivial⟩,s,m,Pq,b,hm⟩
  rintro f' w2 ⟨hf,s',m',hbs2,b,hm⟩;obtain ⟨av4,rfl⟩:=lu _ _ hf;clear hf;refine jY b ?_;refine vv (k:=oD) Gp (jO SQ rfl) b hZ hB kL (by rw [DK];exact hm) fun s' m' w5 hm hbs3 b=>?_;cases hm;refine jY b ?_;exact nO rfl ⟨_,_,_,[],rfl,⟨rfl,rfl⟩,lM hbs (lM hbs2 hbs3),lf0 b⟩
theorem Dp {R:Rn}{fv fu:Nat}:CVl R (lvalue (jI fv R.src) R.src.c fu):=fun e a c=>by refine qh fun w Z G m s q b hZ _ hB hm=>?_;refine lq func111 rfl ?_;refine lK [(0,Pt R.lb),(1,.agg (cX e a c).toArray)] ⟨rfl,rfl,trivial⟩ fun av=>?_;refine GV (yj ?_);refine EG b (uZ rfl) fun w1 b3 b=>?_;have b:Bx w w1 Z G (Low R m s ++ [.box b3 166 (cX e a c).toArray]) (kQ R m s ++ [.l a c e.a]):=b;refine jY b ?_;refine kU (lI (cX e a c) underlying166 jU rfl (b.bk 9 rfl)) ?_;refine vv (G7 fu e a c) (jO Fa rfl) b hZ hB kL hm (fun s m w1 hm hbs b=>?_) y1;refine jY b ?_;refine QN (k:=oD) I4 (jO Jc rfl) b hZ hB kL (by rw [DK];exact hm) fun x s m w1 hm hbs2 b=>?_;cases hm;refine jY b ?_;refine lX ?_;exact jN rfl (nH rfl) ⟨_,_,_,[],rfl,⟨rfl,rfl⟩,lM hbs hbs2,lf0 b⟩
end Go.Proofs.YtdkneekpdecjbaaGreat
