/- A checked source is numbered well, and small. -/
import Derived.Test.YtdkneekpdecjbaaGreatZ27
import Derived.Test.YtdkneekpdecjbaaGreatZ26
import Derived.Test.YtdkneekpdecjbaaGreatZ18
import Derived.Test.YtdkneekpdecjbaaGreatZ19
import Derived.Test.YtdkneekpdecjbaaGreatZ25
import Derived.Test.YtdkneekpdecjbaaGreatZ4
import Derived.WalkKit
import Derived.ProofKit
import Derived.OpenShut
import Derived.ChangeOld
import Derived.SizedLaws
import Derived.Lib.SmallJoins
import Derived.Deep.Slices
import Derived.Deep.Fields
set_option linter.unusedVariables false
set_option linter.unusedSimpArgs false
set_option maxRecDepth 4000
namespace Go.Proofs.YtdkneekpdecjbaaGreat
open Go.RowKit Go.Fw Go.Proofs.Tryz
theorem VR:∀ (n:Nat)(e:jB),Cr n e→XO e
 | 0,_,h=>h.elim
 | n+1,e,h=>.mk ⟨h.1.2.1,by have:=h.1.2.2.1;omega⟩ fun y hy=>VR n y (h.2 y hy)
theorem V9:∀ (n:Nat)(e:jB),Cr n e→XD n e
 | 0,_,h=>h.elim
 | n+1,e,h=>fun y hy=>V9 n y (h.2 y hy)
theorem V8:∀ (n:Nat)(x:jA),Rq n x→SD 5000 n x
 | 0,_,h=>h.elim
 | n+1,x,h=>⟨fun y hy=>V9 _ y (h.1 y hy),⟨h.2.1.1,fun y hy=>V9 _ y (h.2.1.2 y hy)⟩,fun y hy=>V8 n y (h.2.2.1 y hy),fun y hy=>V8 n y (h.2.2.2.1 y hy)⟩
structure Gs7 (s:jR):Prop where
 ci:CI s
 sw:aa7 s
 st:s.b.length<=200
 fs:s.a.b.length<=5000
theorem Gs7.szs {s:jR}(h:Gs7 s):Szs s 5000 10:=⟨by have:=h.fs;omega,fun V hV=>by have:=h.ci.vn V hV;omega,fun fn hfn x hx=>V8 10 x (h.ci.fx fn hfn x hx)⟩
theorem Yd:AA 10100=some true:=by kernel_rfl
def L0' (f:Int)(s:Lw):Prop:=s.f=f/\s.blocks=[]/\s.labs=[]/\s.vals=none/\s.ops=0
theorem R3 {f:Int}:∀ {l:List gP}{i:Nat},Ho (L0' f) (Eh l i) fun _=>L0' f
 | [],_=>Ih fun _=>id
 | v :: l,i=>fun s a s' e hs=>by
  rw [Eh] at e;dsimp only at e;split at e
  · cases e
  split at e
  · obtain ⟨o,_,e⟩:=bs e;exact R3 _ _ _ e hs
  · exact R3 _ _ _ e hs
section
variable {vis:Int->Int->Option (List Int)}{src:jR}{fu:Nat}
theorem adG {s s':Lw}{u:Unit}{V:List gP}{f:Int}{O:List Int}{fn:kN}(hS:Sv vis src.c V f)(hf:ix? src.a.b f=some fn)(hB:Sb V O fn.d)(hs:L0' f s)(e:Ob vis src fu s=some (.ok u s')):∀ b ∈ s'.blocks,BM V b.c/\b.c.length<=6000:=by
 unfold Ob at e;rw [hs.1,hf,hS.va] at e;dsimp only at e;have key:Ho (L0' f) (Eh V 0 |>.bind fun _=>yt fn.d fun x=>sH vis src.c x.n |>.bind fun e=>xG e |>.bind fun _=>oV e 0 |>.bind fun _=>uy (xY vis src.c fu) fn.d) fun _ s=>WG V f [] s:=by
  refine hb R3 fun _=>?_;revert hB;generalize fn.d=l;intro hB;cases hB with
  | nil=>exact fun s a s' e=>by cases e
  | @cons _ x l vi ha ht ca bo el nx=>
  have hB:Sb V O (x :: l):=.cons vi ha ht ca bo el nx;intro s a s' e hs;obtain ⟨h0,h1,h2,h3,h5⟩:=hs;obtain ⟨i,s1,e1,e⟩:=Qw e;obtain ⟨l1,hl1,e1⟩:=bs e1;obtain ⟨r,hr,e1⟩:=bs e1;cases r with
  | none=>cases e1
  | some ps=>
  cases e1;rw [h0,hS.vi] at hl1;cases hl1;rw [h0,hS.va,vi] at hr;have hp:=(JO _ _ _ hr).2;obtain ⟨_,s2,e2,e⟩:=Qw e;have hn:xG s.labs.length { s with labs:=s.labs ++ [(-1,ps)] }=some (.ok () { s with labs:=[(0,ps)],blocks:=[OW] }):=by unfold xG;rw [h2];simp [h1]
  rw [hn] at e2;cases e2;obtain ⟨_,s3,e3,e⟩:=Qw e;rw [h2] at e3;have q:=Sk (V:=V) (f:=f) (F:=[]) (O:=O) (s:={ s with labs:=[(0,ps)],blocks:=[OW] }) ⟨h0,by rw [h5];omega,by rw [h5];omega,fun b hb=>?_,fun i t ht=>?_,fun i j t u ht hu _ _=>?_⟩ (by simp) (fun j hj=>?_) e3
  · exact EI (Wl hS fu) hB _ _ _ e ⟨q.1,fun _=>q.2.2⟩
  · rw [List.mem_singleton.1 hb];exact ⟨.nil,by rw [h5];exact vk _⟩
  · have:=List.mem_singleton.1 (vM ht);subst this;simp
  · have:=(List.getElem?_eq_some_iff.1 ht).1;have:=(List.getElem?_eq_some_iff.1 hu).1;simp at *
    omega
  · rw [List.mem_singleton.1 hj];refine ⟨by simp,fun t ht _=>⟨fun c=>absurd h3 c,OW,?_,rfl⟩,(0,ps),rfl,hp⟩;have:=List.mem_singleton.1 (vM ht);subst this;rfl
 have hw:=(key _ _ _ e ⟨rfl,hs.2⟩).ow;exact fun b hb=>⟨(hw.bo b hb).1,by have:=(hw.bo b hb).2;have:=hw.o1;omega⟩
def Fb (vis:Int->Int->Option (List Int))(src:jR):Prop:=∀ (k:Nat) fn,src.a.b[k]?=some fn->∃ V O,src.c[k]?=some V/\Sv vis src.c V k/\Sb V O fn.d
abbrev Cb (src:jR)(res:List p8):Prop:=∀ (k:Nat) c,res[k]?=some c->∃ V,src.c[k]?=some V/\∀ b ∈ c.b,BM V b.c/\b.c.length<=6000
theorem WZ (hX:Fb vis src){res:List p8}{er:Int}:∀ (n f:Nat)(acc:List p8),acc.length=f→Cb src acc→FU vis src fu n f acc=some (res,er)→Cb src res
 | 0,f,acc,_,ha,e=>by cases e;exact ha
 | n+1,f,acc,hl,ha,e=>by
  rw [FU] at e;obtain ⟨lo,hlo,e⟩:=bs e;cases lo with
  | lim=>cases e;intro k c h;simp at h
  | rt=>cases e;intro k c h;simp at h
  | ok u s=>
  obtain ⟨acc2,hacc,e⟩:=bs e;rw [Gh hacc] at e;refine WZ hX n (f+1) _ (by simp [hl]) (fun k c hc=>?_) e;by_cases hk:k < acc.length
  · rw [AL hk] at hc;exact ha k c hc
  · have hk2:k=acc.length:=by have:=(List.getElem?_eq_some_iff.1 hc).1;simp at this;omega
    subst hk2;rw [Du (mO _),Nat.sub_self] at hc;cases hc;have hfn:∃ fn,src.a.b[acc.length]?=some fn:=by
     cases hq:src.a.b[acc.length]? with
     | some fn=>exact ⟨fn,rfl⟩
     | none=>
      exfalso;unfold Ob at hlo;rw [show ix? src.a.b (Ms (f:Int)).f=none from by unfold ix? Ms;dsimp only;rw [if_neg (by omega),<-hl,Int.toNat_natCast];exact hq] at hlo;cases hlo
    obtain ⟨fn,hfn⟩:=hfn;obtain ⟨V,O,h1,h2,h3⟩:=hX _ fn hfn;exact ⟨V,h1,adG h2 (by unfold ix?;rw [if_neg (by omega),Int.toNat_natCast];exact hfn) h3 ⟨by unfold Ms;dsimp only;rw [hl],rfl,rfl,rfl,rfl⟩ hlo⟩
end
section
variable {fu:Nat}
theorem aey {v i:Int}:∀ (l:List qm)(k:Nat)(a:Int),(∀ o ∈ l,kO o≠(v,i))→mg fu v i l k a=some (.go a)
 | [],_,_,_=>rfl
 | o :: l,k,a,h=>by
  have ho:=h o (.head _);rw [mg];have ih:=fun a=>aey l (k+1) a fun x hx=>h x (.tail _ hx);by_cases c:o.f=v
  · rw [lG c,lD (show ¬ o.c=i from fun d=>ho (Prod.ext c d))];exact ih a
  · rw [lD c];exact ih a
theorem cnt1 {v i:Int}:∀ (l:List qm)(k:Nat),l.Pairwise kl→(∃ o ∈ l,kO o=(v,i))→mg fu v i l k 0=some (.go 1)
 | [],_,_,⟨o,h,_⟩=>by cases h
 | o :: l,k,h,⟨x,hx,hk⟩=>by
  obtain ⟨p1,p2⟩:=Bu.1 h;rw [mg];rcases oM.1 hx with rfl | hx
  · rw [lG (show x.f=v from congrArg Prod.fst hk),lG (show x.c=i from congrArg Prod.snd hk)];exact aey l _ _ fun y hy c=>NT (p1 y hy) (hk.trans c.symm)
  · have hne:kO o≠(v,i):=fun c=>NT (p1 x hx) (c.trans hk.symm);have ih:=cnt1 (v:=v) (i:=i) l (k+1) p2 ⟨x,hx,hk⟩;by_cases c:o.f=v
    · rw [lG c,lD (show ¬ o.c=i from fun d=>hne (Prod.ext c d))];exact ih
    · rw [lD c];exact ih
theorem adj {s:jR}{j:Nat}{V:List gP}{out:List qm}{v:Int}{x:gP}(hV:s.c[j]?=some V)(hx:ix? V v=some x)(hw:x.a≤8)(hs:out.Pairwise kl)(hc:x.b≠3→∀ i:Nat,i < x.a.toNat→∃ o ∈ out,kO o=(v,(i:Int))):∀ (n i:Nat),10≤n+i→i≤9→∃ r,pU fu s j out v n i=some (.go r)
 | 0,i,h1,h2=>by omega
 | n+1,i,h1,h2=>by
  have e1:ix s.c (j:Int)=some V:=by unfold ix;rw [lD (by omega),FJ];exact hV
  have e2:ix V v=some x:=hx;rw [pU,e1,Option.bind_some,e2,Option.bind_some];by_cases c:(i:Int) < x.a
  · rw [lG c];by_cases d:x.b≠3
    · rw [lG d,cnt1 out 0 hs (hc d i (by omega)),Option.bind_some,Ld.el,lD (by simp),TV (by omega) (by omega)];exact adj hV hx hw hs hc n (i+1) (by omega) (by omega)
    · rw [lD d];exact ⟨_,rfl⟩
  · rw [lD c];exact ⟨_,rfl⟩
theorem adY {s:jR}{j:Nat}{V:List gP}{out:List qm}(hf:10≤fu)(hV:s.c[j]?=some V)(hw:∀ x ∈ V,x.a≤8)(hs:out.Pairwise kl):∀ (l:List Int)(k:Nat),(∀ v ∈ l,∃ x,ix? V v=some x∧(x.b≠3→∀ i:Nat,i < x.a.toNat→∃ o ∈ out,kO o=(v,(i:Int))))→oG fu s j out l k=some (.go ())
 | [],_,_=>rfl
 | v :: l,k,h=>by obtain ⟨x,h1,h2⟩:=h v (.head _);obtain ⟨r,hr⟩:=adj (fu:=fu) hV h1 (hw x (vM (ix?_at h1))) hs h2 fu 0 (by omega) (by omega);rw [oG,show (0:Int)=((0:Nat):Int) from rfl,hr];exact adY hf hV hw hs l (k+1) fun v hv=>h v (.tail _ hv)
theorem ad7 (hf:10000 < fu){s:jR}{j:Nat}{V:List gP}(hV:s.c[j]?=some V)(hvi:∀ st,rA fu s (j:Int) st=some (um st V 0))(hw:∀ x ∈ V,x.a≤8){b:mP}(hB:BM V b.c)(hl:b.c.length≤6000):∀ (l:List qm)(k:Nat),l=b.c.drop k→nN fu s j b l k=some (.go ())
 | [],k,_=>rfl
 | o :: l,k,h=>by
  have hx:b.c[k]?=some o:=by
    have q:(b.c.drop k)[0]?=some o:=by rw [<-h];rfl
    rw [List.getElem?_drop] at q;exact q
  have hk:=(List.getElem?_eq_some_iff.1 hx).1;have hl':l=b.c.drop (k+1):=by rw [l6 hx] at h;exact (List.cons.inj h).2
  have ih:=ad7 hf hV hvi hw hB hl l (k+1) hl';rw [nN];by_cases c:o.b≠19
  · rw [lG c];exact ih
  · rw [lD c,TJ (by omega),Option.bind_some];obtain ⟨r,hr,hI⟩:=aaD (fu:=fu) (ops:=b.c.take k) (fun o ho hk=>by
      obtain ⟨i,hi⟩:=QY ho;rw [List.getElem?_take] at hi;split at hi
      · exact (hB i o hi).1 hk
      · cases hi) (by simp;omega) hf
    have hc:=(hB k o hx).2 (by omega);rw [hr,Option.bind_some,hvi,Option.bind_some,adY (by omega) hV hw hI.so _ 0 fun v hv=>?_]
    · exact ih
    · obtain ⟨n,x,e1,e2,_⟩:=Ht _ _ hv;have hix:ix? V v=some x:=by unfold ix?;rw [e1,lD (by omega),DV,FJ];exact e2
      refine ⟨x,hix,fun h3 i hi=>?_⟩;obtain ⟨w,hw2⟩:=Option.isSome_iff_exists.1 (hc v hv x hix h3 i hi);exact hI.al _ w hw2
theorem aeE (hf:10000 < fu){s:jR}{j:Nat}{V:List gP}(hV:s.c[j]?=some V)(hvi:∀ st,rA fu s (j:Int) st=some (um st V 0))(hw:∀ x ∈ V,x.a≤8):∀ (l:List mP)(k:Nat),(∀ b ∈ l,BM V b.c∧b.c.length≤6000)→oI fu s j l k=some (.go ())
 | [],k,_=>rfl
 | b :: l,k,h=>by have hb:=h b (.head _);rw [oI,ad7 hf hV hvi hw hb.1 hb.2 b.c 0 rfl];exact aeE hf hV hvi hw l (k+1) fun x hx=>h x (.tail _ hx)
theorem aee (hf:10000 < fu){s:jR}(hvi:∀ (j:Nat) V st,s.c[j]?=some V→rA fu s (j:Int) st=some (um st V 0))(hw:∀ V ∈ s.c,∀ x ∈ V,x.a≤8){res:List p8}(h:Cb s res):∀ (l:List p8)(k:Nat),l=res.drop k→oH fu s l k=some (.go ())
 | [],k,_=>rfl
 | c :: l,k,hl=>by
  have hx:res[k]?=some c:=by
   have q:(res.drop k)[0]?=some c:=by rw [<-hl];rfl
   rw [List.getElem?_drop] at q;exact q
  have hl':l=res.drop (k+1):=by rw [l6 hx] at hl;exact (List.cons.inj hl).2
  obtain ⟨V,hV,hB⟩:=h k c hx;rw [oH,aeE hf hV (fun st=>hvi k V st hV) (hw V (vM hV)) c.b 0 hB];exact aee hf hvi hw h l (k+1) hl'
end
theorem JR {fu:Nat}{i:Int}:∀ (r:List gP)(k:Nat)(acc:List Int),oz fu i r k acc=kJ fu i r k acc
 | [],_,_=>rfl
 | x :: r,k,acc=>by rw [oz,kJ,JR r,funext fun a=>JR r (k+1) a]
theorem UG {fu:Nat}{s:jR}{f i:Int}:rA fu s f i=jI fu s f i:=by unfold rA jI;simp only [JR]
theorem ac7 {K:List jT}{V:List gP}{Ps:List Nat}{R:List kg}{f:Int}(hvo:∀ x ∈ V,VO R x){O:List Int}{l:List jA}{a b:Nat}(h:Sc V O l a b):∀ {a' b':Nat},SW K V Ps f l a' b'->(∀ x ∈ l,XS x)->Sb V O l:=by
 induction h with
 | nil=>exact fun _ _=>.nil
 | @cons O x l a c d b id vi bo el nx i1 i2 i3=>
  intro a' b' hw hx;have h1:=hx x (.head _);cases hw with
  | cons id2 kd tg ar de tr ca ct bo2 el2 nx2=>
  exact .cons (by rw [id];exact vi) h1.a h1.t (fun k8 v hv=>by
   obtain ⟨v',e1,e2,_⟩:=tr k8;have:ix? V x.f=some v':=e1;rw [hv] at this;cases this;rcases hvo v (vM (ix?_at hv)) with z | z | z
   · exact z.2
   · omega
   · omega) (i1 bo2 h1.b) (i2 el2 h1.e) (i3 nx2 fun y hy=>hx y (.tail _ hy))
theorem SF:∀ (n:Nat)(x:jA),Rq n x→XS x
 | 0,_,h=>h.elim
 | n+1,x,h=>.mk (fun y hy=>VR _ y (h.2.1.2 y hy)) (fun y hy=>VR _ y (h.1 y hy)) (fun y hy=>SF n y (h.2.2.1 y hy)) fun y hy=>SF n y (h.2.2.2.1 y hy)
theorem RJ {fu:Nat}(hf:10100<=fu){l:List Int}:kS (xw fu l) (fun r=>jy r fun s b=>b=true->Gs7 s/\aaY s):=by unfold xw;refine .bd Yp fun l2 h2=>.bd (ab3 (by omega) (by omega)) fun t _=>?_;refine .bp (YS (by omega)) fun p r hr=>.pp hr fun a e hp=>.ite (fun _=>.mk fun z=>(by cases z)) fun c=>?_;have hp:=hp (by omega);refine .XM (Zj hf hp) fun v ev hv=>?_;obtain ⟨s,ln,e⟩:=v;rw [pl] at hv ⊢;rw [pl] at hv ⊢;refine .mk fun z=>?_;have he:e=0:=Ey z;have q:=hv he;subst he;have hw:=ZC (by omega) hp ev;refine ⟨⟨⟨fun V hV=>(q.1.1.2 V hV).2,q.2⟩,hw,q.1.2,?_⟩,YV (by omega) hp ev⟩;rw [<-hw.1,q.1.1.1];exact hp.e
theorem SS (l:List Int):wK 10100 l=some true:=by
 unfold wK;obtain ⟨⟨s,b⟩,hc,hg⟩:=RJ (fu:=10100) (mO _) (l:=l);rw [hc,Option.bind_some,pl];rw [pl] at hg;cases b with
 | false=>
  rw [Yd];rfl
 | true=>
  obtain ⟨hg,hsc⟩:=hg rfl;show (uS 10100 s).bind _=_;obtain ⟨⟨m,e⟩,hl⟩:=Zq (fu:=10100) hg.szs (by omega) (by omega) (by omega);rw [hl,Option.bind_some,pl];obtain ⟨q,hq,he⟩:=Option.map_eq_some_iff.1 hl;obtain ⟨res,e'⟩:=q;cases he;have hv24:∀ V ∈ s.c,V.length<=24:=fun V hV=>by have:=hg.ci.vn V hV;omega
  have hvi:∀ (j:Nat) V st,s.c[j]?=some V->jI 10100 s (j:Int) st=some (um st V 0):=fun j V st hV=>by rw [Vd hv24];unfold ab9;rw [lD (by omega),FJ,hV]
  have hX:Fb (jI 10100 s) s:=fun k fn hfn=>by obtain ⟨V,hV,a,b,hS⟩:=hsc k fn hfn;obtain ⟨B,_,_,hB⟩:=hg.sw.2.1;obtain ⟨V',hV',hvo,hW,_⟩:=hB k fn hfn;rw [hV] at hV';cases hV';exact ⟨V,_,hV,⟨fun st=>hvi k V st hV,by unfold ix?;rw [lD (by omega),FJ];exact hV⟩,ac7 hvo hS hW fun x hx=>SF 10 x (hg.ci.fx fn (vM hfn) x hx)⟩
  have hcb:=WZ hX s.a.b.length 0 [] rfl (fun k c h=>by simp at h) hq;have hw8:∀ V ∈ s.c,∀ x ∈ V,x.a<=8:=fun V hV x hx=>by
   obtain ⟨k,hk⟩:=QY hV;obtain ⟨fn,hfn⟩:=mF (l:=s.a.b) (k:=k) (by rw [<-hg.sw.1];exact ko hk);obtain ⟨B,_,_,hB⟩:=hg.sw.2.1;obtain ⟨V',h1,h2,_⟩:=hB k fn hfn;rw [hk] at h1;cases h1;rcases h2 x hx with ⟨_,h⟩|⟨_,r,hr,h⟩|⟨_,h,h'⟩
   · omega
   · have:=hg.sw.2.2 r (by obtain ⟨q,_,hq⟩:=kW hr;exact vM hq);omega
   · omega
  rw [aee (fu:=10100) (by omega) (fun j V st hV=>by rw [UG];exact hvi j V st hV) hw8 hcb res 0 rfl,Yd];rfl
end Go.Proofs.YtdkneekpdecjbaaGreat
namespace Go.Proofs.YtdkneekpdecjbaaGreat
open Go.ChangeShapes Go.WideShapes Go.ChangeAt Go.RowKit Go.Fw Go.Joins Go.Proofs.Tryz
theorem own:ownKnob prog.godebug=none:=by kernel_rfl
theorem laidOut:laidOutB prog=true:=by kernel_rfl
theorem WM {w:World}{a:Addr}{v:Value}(h:w.cell? a=some v):∃ b o,a=⟨b,o,none⟩/\b < w.heap.size:=by have h1:=World.cell?_spot h;obtain ⟨b,o,s⟩:=a;simp only at h1;subst h1;exact ⟨b,o,rfl,World.block_lt_of_cell? w _ h⟩
theorem open_list {H:Type}{enc:TypeId × Value->H}{w:World}{base:Nat}{spare:Nat->Bool}{held:Bool}{fuel:Nat}{cs:List Value}{x:DataW H × List MemPlace}(h:DataW.trod enc prog w base spare held fuel 22 cs=some x) :∃ A c zs,cs=[.slice A zs.length c]/\kD (α:=Int) (fun _=>True) w A c zs:=by
 rcases open_ints underlying22 underlying3 (by kernel_rfl) h with ⟨rfl,hx⟩|⟨a,len,cap,zs,rfl,hb,hl,hm,hz,hx,hcell,hwz⟩
 · exact ⟨none,0,[],rfl,kD.nil⟩
 · have hlz:len<=zs.length:=by rw [hz];split <;> omega
   have hlt:(zs.take len).length=len:=by rw [wI];omega
   refine ⟨some a,cap,zs.take len,by rw [hlt],by omega,hm,fun h0=>?_⟩;have h1:=hcell 0 (by omega);rw [Addr.add_zero'] at h1;obtain ⟨b,o,rfl,hbb⟩:=WM h1;refine ⟨rfl,trivial,hbb,fun i z hi=>⟨[.int .i64 z],?_,rfl⟩⟩;rw [List.getElem?_take] at hi;split at hi
   · rename_i hj;have h2:=hcell i (by omega);rw [Addr.add_lit] at h2;intro k v hk;obtain _ | k:=k
     · obtain rfl:Value.int .i64 z=v:=JD hk;have hd:zs.getD i 0=z:=by rw [aeW,hi];rfl
       rw [hd] at h2;exact (by simpa [Rp.sz,mU,nS] using h2)
     · cases hk
   · cases hi
theorem WL {w:World}{A:Option Addr}{c:Nat}{l:List Int}(h:kD (fun _=>True) w A c l):Pre w (fun _=>True) [] [.l A c l]:=⟨fun it hi=>(by cases hi),fun it hi=>(by cases hi),List.Pairwise.nil,fun d hd=>by
 simp only [oM,CF,or_false] at hd;subst hd;exact h⟩
theorem JF (w:World){A0:Option Addr}{c0:Nat}{x0:List Int}(h0:kD (fun _=>True) w A0 c0 x0):Calls prog 7 #[.slice A0 x0.length c0] w (tV fun v w'=>v=.bool true/\Ext w w'):=
 (H9 10100 (WL h0) (SS x0)).mono fun e w' he=>by obtain ⟨v,rfl,hv,hb⟩:=he;exact ⟨v,rfl,hv,hb.ex⟩
set_option maxRecDepth 100000 in
theorem Hu (os:Os)(started:os.Started)(H:Type)(enc:TypeId × Value->H) :ReturnsInHanded {} checked os 7 .any (Rows.lowerBindsSpec.pre6 enc prog f7 Rows.lowerBindsRow.domain false) (Rows.lowerBindsSpec.post enc prog f7 false true false false):=by
 refine returnsInHanded_of_change (C:=checked) own started (by kernel_rfl) func7
  (ChangeSpec.witness6 (enc:=enc) (C:=checked) false ⟨#[],#[.slice none 0 0],[]⟩ 8 (by kernel_rfl) (by kernel_rfl) (by kernel_rfl) (by kernel_rfl)) ?_
 intro W base args ds gs before hval0 hW hcnd _;have hval:∀ (j:Nat) t v,f7.params[j]?=some t->args[j]?=some v->Value.okWide prog W .any base t v:=hval0;have hW':=hW;obtain ⟨p,q,hA0,hV,rfl,hfz,hnd⟩:=hW;have hA:DataW.TrodAll enc prog W 0 (fun _=>true) true f7.params.toList args.toList ds p:=hA0;rw [params7] at hA hval;obtain ⟨v0,vs0,d0,ds0,p0,q0,hargs,rfl,rfl,h0,r0⟩:=trodAll_cons hA;obtain ⟨rfl,rfl,rfl⟩:=trodAll_nil r0;obtain rfl:args=#[v0]:=by cases args;simp_all
 obtain ⟨rfl,rfl⟩:=trodVars_none hV;have k0:=h0;have lt0:∀ x ∈ p0,x.block < W.heap.size:=by obtain ⟨m,hm⟩:=k0;exact DataW.trod_lt m _ _ _ hm
 obtain ⟨a0,n0,c0,rfl⟩:=okWide_slice underlying22 (hval 0 22 v0 rfl rfl);obtain ⟨f0,hf0⟩:=h0;obtain ⟨A0,e0,l0,hcs0,hl0⟩:=open_list hf0;simp [Value.cells] at hcs0;obtain ⟨rfl,rfl,rfl⟩:=hcs0;clear hA0 hval0;refine (JF W hl0).mono fun e W' he=>?_;obtain ⟨v,rfl,rfl,bel⟩:=he;exact ⟨_,rfl,_,_,_,[],_,[],hW',trodAll_mk1 (shut_bool underlying4 _),trodAll_cons_mk (Below.trod laidOut (by kernel_rfl) (Ey (by kernel_rfl)) k0 bel lt0) trodAll_mk0,rfl,Below.frame bel _,fun h=>by cases h⟩
theorem lowerBinds_holds:Rows.LowerBindsSaid:=
 OpenClaim.holds_of_wide 7 f7 rfl rfl rfl rfl rfl rfl rfl ⟨rfl,rfl,rfl,rfl,rfl⟩ rfl rfl rfl rfl rfl (by kernel_rfl) func7 (by kernel_rfl)
  (Ey (by kernel_rfl)) (by unfold Func.isWrapper;first | (rw [lG (by decide +kernel)];kernel_rfl)|(rw [lD (by decide +kernel)];exact ⟨rfl,rfl⟩))
  (fun os started H enc _=>Hu os started H enc)
end Go.Proofs.YtdkneekpdecjbaaGreat
