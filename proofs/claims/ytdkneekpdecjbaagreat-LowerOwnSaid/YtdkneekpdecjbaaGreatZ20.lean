/- The mirror of the lowering answers: statements, functions, sources. -/
import Derived.Test.YtdkneekpdecjbaaGreatZ19
import Derived.Test.YtdkneekpdecjbaaGreatLa
import Derived.Test.YtdkneekpdecjbaaGreatLb
set_option linter.unusedVariables false
set_option maxRecDepth 4000
namespace Go.Proofs.YtdkneekpdecjbaaGreat
open Go.RowKit Go.Fw Go.Proofs.Tryz
section
variable {vis:Int->Int->Option (List Int)}{vars:List (List iA)}{v:Bool}{L H n m fu d:Nat}
abbrev EM (vis:Int->Int->Option (List Int)):Prop:=∀ f st,∃ l,vis f st=some l/\l.length<=25
theorem TT.wk {α:Type}{c:LM α}{v v':Bool}{L L' H H' n m n' m':Nat}{Q:α->Nat->Prop}(h:TT vars v v' c L H n m Q)(h1:L<=L')(h2:H'<=H)(h3:n'<=n)(h4:m<=m'):TT vars v v' c L' H' n' m' Q:=fun s hv hL hh hp=>by obtain ⟨q,hq,k⟩:=h s hv (by omega) (by omega) (by omega);exact ⟨q,hq,fun a s' e=>⟨(k a s' e).1,by have:=(k a s' e).2.1;omega,(k a s' e).2.2⟩⟩
theorem Qd (hV:EM vis)(hd:d≤fu):∀ (l:List jB)(L n:Nat),(∀ y ∈ l,XD d y)→n+l.length+d≤100000→TT vars true true (Gp vis vars fu l) L H n (n+l.length) q0
 | [],_,_,_,_=>xH (fun _ _=>trivial) (ng _)
 | x :: l,L,n,h,hn=>tB (H7 hV fu d x L H n (h x (zH ..)) hd (by simp at hn;omega)) fun _ K hK _=>(Qd hV hd l K (n+1) (fun y hy=>h y (xQ _ hy)) (by simp at hn;omega)).wk (ng _) (ng _) (ng _) (by simp;omega)
theorem Ib (hV:EM vis){e:jB}(h:XD d e)(hd:d<=fu)(hn:n+d<=100000):TT vars true true (lvalue vis vars fu e) L H n n q0:=tB (H7 hV fu d e L H n h hd hn) fun _ _ _ _=>IQ
theorem O7 {i:Int}:∀ {L k:Nat}{j:Int},TT vars true true (F5 i k j) L H n n q0
 | _,0,_=>xH (fun _ _=>trivial) (ng _)
 | _,k+1,j=>tB Av fun _ _ _ _=>tB G6 fun _ _ _ _=>O7
theorem QI {x:jA}:TT vars true true (BF vars x) L H n n q0:=Vl fun y hy=>rH (fun _=>R7 fun _=>JI (by simp)) fun _=>by rw [lW (by omega)];exact O7
theorem Uz (hV:EM vis){t e:jB}(ht:XD d t)(he:XD d e)(hd:d<=fu)(hn:n+1+d<=100000):TT vars true true (DJ vis vars fu t e) L H n n q0:=by
 refine rH (fun _=>?_) fun _=>tB (Ib hV he hd (by omega)) fun _ _ _ _=>tB (rH (fun _=>Gj) fun _=>xH (Q:=q0) (fun _ _=>trivial) (ng _)) fun _ _ _ _=>G6;refine tB (Qi hV (by omega) fun y hy=>?_) fun _ _ _ _=>tB (H7 hV fu d e _ H (n+1) he hd hn) fun _ _ _ _=>tB IQ fun _ _ _ _=>tB IQ fun _ _ _ _=>R7 fun _=>JI (by simp);cases d with
 | zero=>exact ht.elim
 | succ d=>exact H7 hV fu d y _ H n (ht y hy) (by omega) (by omega)
theorem Yn (hV:EM vis){x:jA}(h:∀ y ∈ x.a,XD d y)(hl:x.a.length<=5000)(hd:d<=fu)(hn:n+5000+d<=100000):TT vars true true (D5 vis vars fu x) L H n n q0:=
 tB (Qd hV hd x.a L n h (by omega)) fun _ K hK _ s hv hL hh hp=>by have:=(tB (vH (v:=true) (vars:=vars) (L:=K) (H:=H) (n:=0) (stm:=x.n) hV) fun next K1 h1 hN=>tB (xZ hN (l:=[]) (by simp)) fun e K2 h2 _=>WB fun h K3 h3=>tB (Iw (t:=⟨3,0,x.i,s.pend,⟨e,h⟩⟩)) fun _ K4 h4 _=>tB (vK (i:=next) (k:=1) (by omega)) fun _ _ _ _=>VW) { s with pend:=[] } ⟨hv.o0,hv.o1,hv.bk,hv.lb,hv.vl,hv.hn,hv.vw⟩ hL hh (ng _);obtain ⟨q,hq,k⟩:=this;exact ⟨q,hq,fun a s' e=>⟨(k a s' e).1,by have:=(k a s' e).2.1;omega,trivial⟩⟩
theorem DN {st:jA→LM Unit}:∀ {l:List jA}{L:Nat},(∀ x ∈ l,∀ L,TT vars true true (st x) L H n n q0)→TT vars true true (tL st l) L H n n q0
 | [],_,_=>xH (fun _ _=>trivial) (ng _)
 | x :: l,L,h=>fun s hv hL hh hp=>by
  rw [tL];dsimp only;split
  · exact (tB (h x (zH ..) L) fun _ K hK _=>DN fun y hy=>h y (xQ _ hy)) s hv hL hh hp
  · exact xH (Q:=q0) (fun _ _=>trivial) (ng _) s hv hL hh hp
theorem MC {i:Nat}(hi:i < L):TT vars true true (xq i) L H n n q0:=fun s hv hL hh hp=>by
 obtain ⟨t,ht⟩:∃ t,s.labs[i]?=some t:=⟨_,List.getElem?_eq_getElem (by omega)⟩;unfold xq;rw [ht,Option.bind_some];split
 · exact vK hi s hv hL hh hp
 · exact xH (Q:=q0) (fun _ _=>trivial) (ng _) s hv hL hh hp
theorem TY (hV:EM vis){st:jA->LM Unit}{x:jA}(ha:∀ y ∈ x.a,XD d y)(hd:d<=fu)(hn:n+d<=100000)(hb:∀ y ∈ x.d,∀ L,TT vars true true (st y) L H n n q0)(he:∀ y ∈ x.h,∀ L,TT vars true true (st y) L H n n q0):TT vars true true (Cw vis vars st fu x) L H n n q0:=
 tB (CP fun y hy=>Ib hV (ha y hy) hd hn) fun c K0 h0 _=>tB (vH hV) fun body K1 h1 hB=>tB (vH hV) fun behind K2 h2 hN=>tB (rH (fun _=>xH (Q:=fun a K=>a < K) (fun K hK=>by omega) (ng _)) fun _=>vH hV) fun other K3 h3 hO=>
 tB (xZ (by omega) (by simp)) fun yes K4 h4 _=>tB (xZ (by omega) (by simp)) fun no K5 h5 _=>tB EO fun _ K6 h6 _=>tB (vK (by omega)) fun _ K7 h7 _=>tB (DN hb) fun _ K8 h8 _=>tB (ES (by omega)) fun _ K9 h9 _=>
 tB (rH (fun _=>xH (Q:=q0) (fun _ _=>trivial) (ng _)) fun _=>tB (vK (by omega)) fun _ K10 h10 _=>tB (DN he) fun _ K11 h11 _=>ES (by omega)) fun _ K12 h12 _=>MC (by omega)
theorem X4 (hV:EM vis){st:jA->LM Unit}{x:jA}(ha:∀ y ∈ x.a,XD d y)(hd:d<=fu)(hn:n+d<=100000)(hb:∀ y ∈ x.d,∀ L,TT vars true true (st y) L H n n q0):TT vars true true (Jh vis vars st fu x) L H n n q0:=
 tB (vH hV) fun head K0 h0 hH=>tB (vH hV) fun body K1 h1 hB=>tB (vH hV) fun behind K2 h2 hN=>tB (ES (by omega)) fun _ K3 h3 _=>tB (vK (by omega)) fun _ K4 h4 _=>tB S9 fun _ K5 h5 _=>tB (CP fun y hy=>Ib hV (ha y hy) hd hn) fun c K6 h6 _=>
 tB (xZ (by omega) (by simp)) fun yes K7 h7 _=>tB (xZ (by omega) (by simp)) fun no K8 h8 _=>tB EO fun _ K9 h9 _=>tB (vK (by omega)) fun _ K10 h10 _=>tB (DN hb) fun _ K11 h11 _=>tB (ES (by omega)) fun _ K12 h12 _=>vK (by omega)
theorem abF (hV:EM vis){st:jA->LM Unit}{x:jA}(hH:H<=1000000)(hb:∀ y ∈ x.d,∀ L,TT vars true true (st y) L (H+1) n n q0)(he:∀ y ∈ x.h,∀ L,TT vars true true (st y) L H n n q0):TT vars true true (PE vis vars st x) L H n n q0:=
 tB (vH hV) fun h K0 h0 hh0=>tB (vH hV) fun behind K1 h1 hN s hv hL hh hp=>by
  have hrest:TT vars true true (xL behind |>.bind fun _ s=>s.labs[h]?.bind fun t=>((if 0<=t.1 then oD h 1 |>.bind fun _=>Bb (x.f,0) 0 |>.bind fun _=>tL st x.h |>.bind fun _=>xL behind else nX ()) |>.bind fun _=>xq behind) s) K1 H n n q0:=
   tB (ES hN) fun _ K2 h2 _ s hv hL hh hp=>by obtain ⟨t,ht⟩:∃ t,s.labs[h]?=some t:=⟨_,List.getElem?_eq_getElem (by omega)⟩;rw [ht,Option.bind_some];exact (tB (rH (fun _=>tB (vK (by omega)) fun _ K3 h3 _=>tB G6 fun _ K4 h4 _=>tB (DN he) fun _ K5 h5 _=>ES (by omega)) fun _=>xH (Q:=q0) (fun _ _=>trivial) (ng _)) fun _ K6 h6 _=>MC (by omega)) s hv hL hh hp
  obtain ⟨q,hq,k⟩:=DN (L:=K1) hb { s with hnd:=s.hnd ++ [h] } ⟨hv.o0,hv.o1,hv.bk,hv.lb,hv.vl,fun y hy=>by
   rcases qN.1 hy with hy | hy
   · exact hv.hn y hy
   · rw [List.mem_singleton.1 hy];show h < s.labs.length;omega,hv.vw⟩ hL (by simp;omega) hp
  have e1:Iz h s=some (.ok () { s with hnd:=s.hnd ++ [h] }):=by unfold Iz;rw [lW (by omega)]
  unfold LM.bind;rw [e1];show ∃ q,Option.bind (tL st x.d _) _=some q/\_;rw [hq];cases q with
  | lim=>exact ⟨_,rfl,fun a s' e=>by cases e⟩
  | rt=>exact ⟨_,rfl,fun a s' e=>by cases e⟩
  | ok a s1=>
   obtain ⟨⟨g1,g2,g3,g4⟩,g5,_⟩:=k a s1 rfl;have e2:I8 s1=some (.ok () { s1 with hnd:=s.hnd }):=by unfold I8;rw [lW (by rw [g4];simp),g4];simp
   show ∃ q,Option.bind (I8 s1) _=some q/\_;rw [e2];obtain ⟨q2,hq2,k2⟩:=hrest { s1 with hnd:=s.hnd } ⟨g1.o0,g1.o1,g1.bk,g1.lb,g1.vl,fun y hy=>Nat.lt_of_lt_of_le (hv.hn y hy) g2,g1.vw⟩ (rT hL g2) hh g5;refine ⟨q2,hq2,fun b s2 e=>?_⟩;obtain ⟨⟨m1,m2,m3,m4⟩,m5,_⟩:=k2 b s2 e;exact ⟨⟨m1,rT g2 m2,m3.trans g3,m4⟩,m5,trivial⟩
def SD (d:Nat):Nat→jA→Prop
 | 0,_=>False
 | k+1,x=>(∀ y ∈ x.e,XD d y)/\(x.a.length<=5000/\∀ y ∈ x.a,XD d y)/\(∀ y ∈ x.d,SD d k y)/\∀ y ∈ x.h,SD d k y
theorem Ny (hV:EM vis)(hn:n+5001+d≤100000):∀ (fu k:Nat)(x:jA)(L H:Nat),SD d k x→k+d≤fu→H+k≤1000000→TT vars true true (vg vis vars fu x) L H n n q0
 | 0,0,_,_,_,h,_,_=>h.elim
 | 0,k+1,_,_,_,_,h,_=>by omega
 | fu+1,0,_,_,_,h,_,_=>h.elim
 | fu+1,k+1,x,L,H,h,hk,hH=>fun s hv hL hh hp=>by
  obtain ⟨ht,⟨hl,ha⟩,hb,he⟩:=h;have hS:∀ y ∈ x.d,∀ L H,H+k<=1000000->TT vars true true (vg vis vars fu y) L H n n q0:=fun y hy L H hH=>Ny hV hn fu k y L H (hb y hy) (by omega) hH;have hE:∀ y ∈ x.h,∀ L H,H+k<=1000000->TT vars true true (vg vis vars fu y) L H n n q0:=fun y hy L H hH=>Ny hV hn fu k y L H (he y hy) (by omega) hH
  have key:TT vars true true (if x.b=5 then Jh vis vars (vg vis vars fu) fu x
   else GZ |>.bind fun _=>
    if x.b=1 then BF vars x
    else if x.b=2 then xV x.e fun t=>xV x.a fun e=>DJ vis vars fu t e
    else if x.b=3 then D5 vis vars fu x |>.bind fun _=>match x.e with
     | []=>nX ()
     | t :: _=>Bb (Bh t) 0
    else if x.b=4 then Cw vis vars (vg vis vars fu) fu x
    else if x.b=6 then (if x.k≠be then D5 vis vars fu x |>.bind fun _=>DZ 0 else xV x.a (lvalue vis vars fu) |>.bind DZ)
    else if x.b=7 then xV x.a (lvalue vis vars fu) |>.bind zn
    else if x.b=8 then PE vis vars (vg vis vars fu) x
    else if x.b=9 then xV x.a (lvalue vis vars fu) |>.bind fun v=>lop [⟨18,0,v,0,0,0,0,0,wN⟩]
    else if x.b=10 then vI 0 |>.bind DZ
    else nX ()) L H n n q0:=by
   have hv:∀ K,TT vars true true (xV x.a (lvalue vis vars fu)) K H n n q0:=fun K=>CP fun y hy=>Ib hV (ha y hy) (by omega) (by omega);have hc:∀ K,TT vars true true (D5 vis vars fu x) K H n n q0:=fun K=>Yn hV ha hl (by omega) (by omega);refine rH (fun _=>X4 hV ha (by omega) (by omega) fun y hy L=>hS y hy L H (by omega)) fun _=>tB S9 fun _ K1 h1 _=>?_;refine rH (fun _=>QI) fun _=>rH (fun _=>CP fun t htm=>CP fun y hy=>Uz hV (ht t htm) (ha y hy) (by omega) (by omega)) fun _=>rH (fun _=>tB (hc _) fun _ K2 h2 _=>?_) fun _=>
    rH (fun _=>TY hV ha (by omega) (by omega) (fun y hy L=>hS y hy L H (by omega)) fun y hy L=>hE y hy L H (by omega)) fun _=>rH (fun _=>rH (fun _=>tB (hc _) fun _ _ _ _=>OI) fun _=>tB (hv _) fun _ _ _ _=>OI) fun _=>
    rH (fun _=>tB (hv _) fun _ _ _ _=>Qo) fun _=>rH (fun _=>abF hV (by omega) (fun y hy L=>hS y hy L (H+1) (by omega)) fun y hy L=>hE y hy L H (by omega)) fun _=>rH (fun _=>tB (hv _) fun _ _ _ _=>JI (by simp)) fun _=>
    rH (fun _=>tB Av fun _ _ _ _=>OI) fun _=>xH (fun _ _=>trivial) (ng _)
   cases x.e with
   | nil=>exact xH (fun _ _=>trivial) (ng _)
   | cons t l=>exact G6
  exact key { s with stmt:=x.n } ⟨hv.o0,hv.o1,hv.bk,hv.lb,hv.vl,hv.hn,hv.vw⟩ hL hh hp
end
section
variable {vis:Int->Int->Option (List Int)}{fu d k:Nat}
theorem Oq:∀ (l:List iA)(i:Nat)(s:Lw),s.objs.length+l.length≤1000000→∃ q,DU l i s=some q∧∀ a s',q=.ok a s'→(∀ x ∈ l,x.a≤8)∧∃ om ob,s'={ s with omap:=om,objs:=ob }
 | [],_,s,_=>⟨_,rfl,fun a s' e=>by
  cases e;exact ⟨fun x hx=>by (cases hx),_,_,rfl⟩⟩
 | v :: l,i,s,h=>by
  simp only [uX] at h;rw [DU];dsimp only;by_cases c:8 < v.a
  · rw [lX c];exact ⟨_,rfl,fun a s' e=>by cases e⟩
  rw [lW c];have hx:(∀ x ∈ l,x.a<=8)->∀ x ∈ v :: l,x.a<=8:=fun hl x hx=>by
    rcases qg.1 hx with rfl | hx
    · omega
    · exact hl x hx
  by_cases c3:v.b=3
  · rw [lX c3,Ei (by simp;omega),Option.bind_some];obtain ⟨q,hq,k⟩:=Oq l (i+1) { s with omap:=Ay s.omap i s.objs.length,objs:=s.objs ++ [⟨0,i,v.a⟩] } (by simp;omega);refine ⟨q,hq,fun a s' e=>?_⟩;obtain ⟨k1,om,ob,k2⟩:=k a s' e;exact ⟨hx k1,om,ob,k2⟩
  · rw [lW c3];obtain ⟨q,hq,k⟩:=Oq l (i+1) s (by omega);refine ⟨q,hq,fun a s' e=>?_⟩;obtain ⟨k1,om,ob,k2⟩:=k a s' e;exact ⟨hx k1,om,ob,k2⟩
abbrev aaW (f:Nat)(fn:kT):Lw:=⟨f,fn.a.length,[],[⟨-1,-1,f⟩],[],[],0,0,false,0,none,[],[],0,[]⟩
theorem abg {src:jY}{f:Nat}(hV:EM vis)(hF:∀ fn,src.a.b[f]?=some fn->∀ x ∈ fn.d,SD d k x)(hvs:∀ vs ∈ src.c,vs.length<=1000)(hfu:k+d<=fu)(hd:5001+d<=100000)(hk:k<=1000000):∃ q,PZ vis src fu (Rc f)=some q:=by
 unfold PZ;have hix:∀ {α:Type}{l:List α},ix? l ((f:Nat):Int)=l[f]?:=fun {α l}=>by unfold ix?;rw [lW (by omega),Ii]
 show ∃ q,(match ix? src.a.b ((f:Nat):Int) with
  | none=>_
  | some fn=>_)=some q
 rw [hix];cases hfn:src.a.b[f]? with
 | none=>exact ⟨_,rfl⟩
 | some fn=>
 dsimp only;show ∃ q,(match ix? src.c ((f:Nat):Int) with
  | none=>_
  | some vs=>_)=some q
 rw [hix];cases hv:src.c[f]? with
 | none=>exact ⟨_,rfl⟩
 | some vs=>
 dsimp only;obtain ⟨q,hq,h⟩:=Oq vs 0 (aaW f fn) (by show 0+vs.length<=1000000;have:=hvs vs (xu hv);omega);unfold LM.bind;show ∃ q,Option.bind (DU vs 0 (aaW f fn)) _=some q;rw [hq];cases q with
 | lim=>exact ⟨_,rfl⟩
 | rt=>exact ⟨_,rfl⟩
 | ok a s=>
 obtain ⟨h1,om,ob,rfl⟩:=h a s rfl;have key:TT src.c false true (xV fn.d fun x=>rU vis src.c x.n |>.bind fun e=>wo e |>.bind fun _=>oD e 0 |>.bind fun _=>tL (vg vis src.c fu) fn.d) 0 0 0 0 q0:=
  CP fun x hx=>tB (vH hV) fun e K1 _ hE=>tB (MG hE) fun _ K2 h2 _=>tB (vK (by omega)) fun _ K3 h3 _=>DN fun y hy L=>Ny hV (by omega) fu k y L 0 (hF fn hfn y hy) hfu (by omega)
 obtain ⟨q,hq,_⟩:=key { aaW f fn with omap:=om,objs:=ob } ⟨vG _,by show (0:Int)<=6000;omega,fun b hb=>(by cases hb),fun t ht=>(by cases ht),fun h=>(by cases h),fun h hh=>(by cases hh),fun l hl x hx=>by
  have hl:ix? src.c ((f:Nat):Int)=some l:=hl;rw [hix,hv] at hl;cases hl;exact h1 x hx⟩ (ng _) (ng _) (ng _)
 exact ⟨q,hq⟩
theorem Sj {src:jY}(hV:EM vis)(hF:∀ fn ∈ src.a.b,∀ x ∈ fn.d,SD d k x)(hvs:∀ vs ∈ src.c,vs.length≤1000)(hfu:k+d≤fu)(hd:5001+d≤100000)(hk:k≤1000000):∀ (n f:Nat)(acc:List qF),acc.length+n≤1000000→∃ r,Fq vis src fu n f acc=some r
 | 0,f,acc,_=>⟨_,rfl⟩
 | n+1,f,acc,h=>by
  rw [Fq];obtain ⟨q,hq⟩:=abg (f:=f) hV (fun fn hfn=>hF fn (xu hfn)) hvs hfu hd hk;rw [hq,Option.bind_some];cases q with
  | lim=>exact ⟨_,rfl⟩
  | rt=>exact ⟨_,rfl⟩
  | ok a s=>
   dsimp only;rw [Ei (by simp;omega),Option.bind_some];exact Sj hV hF hvs hfu hd hk n (f+1) _ (by simp;omega)
end
theorem Nr {fu:Nat}{b:Int}:∀ (l:List iA)(k:Nat)(a:List Int),a.length+l.length≤25→∃ r,mD fu b l k a=some (.go r)∧r.length≤25
 | [],_,a,h=>⟨a,rfl,by simpa using h⟩
 | x :: l,k,a,h=>by
  simp only [uX] at h;rw [mD];split
  · split
    · rw [Ei (by simp;omega),Option.bind_some];exact Nr l (k+1) _ (by simp;omega)
    · exact Nr l (k+1) a (by omega)
  · exact Nr l (k+1) a (by omega)
theorem abl {fu:Nat}{src:jY}(h:∀ vs ∈ src.c,vs.length<=25):EM (jS fu src):=fun f st=>by
 unfold jS;split
 · exact ⟨[],rfl,by simp⟩
 split
 · exact ⟨[],rfl,by simp⟩
 obtain ⟨vs,hvs⟩:∃ vs,src.c[f.toNat]?=some vs:=⟨_,List.getElem?_eq_getElem (by omega)⟩;have hix:ix src.c f=some vs:=by unfold ix;rw [lW (by omega)];exact hvs
 obtain ⟨r,hr,hl⟩:=Nr (fu:=fu) (b:=st) vs 0 [] (by have:=h vs (xu hvs);simpa using this);rw [hix,Option.bind_some,hr];exact ⟨r,rfl,hl⟩
structure Szs (src:jY)(d k:Nat):Prop where
 fs:src.a.b.length<=1000000
 vs:∀ vs ∈ src.c,vs.length<=25
 sd:∀ fn ∈ src.a.b,∀ x ∈ fn.d,SD d k x
theorem YQ {src:jY}{fu d k:Nat}(h:Szs src d k)(hfu:k+d<=fu)(hd:d<=50000)(hk:k<=1000000):∃ r,uG fu src=some r:=by obtain ⟨r,hr⟩:=Sj (fu:=fu) (abl (fu:=fu) h.vs) h.sd (fun vs hv=>rT (h.vs vs hv) (by decide)) hfu (by omega) hk src.a.b.length 0 [] (by have:=h.fs;simpa using this);exact ⟨_,by unfold uG Wi;rw [hr];rfl⟩
end Go.Proofs.YtdkneekpdecjbaaGreat
namespace Go.Fw
open Go.RowKit
def kP {α:Type}(x:Option α)(P:α->Prop):Prop:=∃ v,x=some v/\P v
def pV {σ ρ:Type}(G:σ→Prop)(O:ρ→Prop):Ld σ ρ→Prop
 | .go s=>G s
 | .out r=>O r
section
variable {α β γ σ ρ:Type}{P:α->Prop}
theorem kP.mk {v:α}(h:P v):kP (some v) P:=⟨v,rfl,h⟩
theorem kP.bd {x:Option β}{f:β->Option α}{Q:β->Prop}(h:kP x Q)(k:∀ v,Q v->kP (f v) P):kP (x.bind f) P:=by obtain ⟨v,rfl,hv⟩:=h;exact k v hv
theorem kP.bp {x:Option (β × γ)}{f:β->γ->Option α}{Q:β->γ->Prop}(h:kP x (fun r=>jy r Q))(k:∀ a b,Q a b->kP (f a b) P):kP (x.bind fun r=>jy r f) P:=by obtain ⟨⟨a,b⟩,rfl,hv⟩:=h;exact k a b hv
theorem kP.pp {r:β × γ}{f:β->γ->Option α}{Q:β->γ->Prop}(h:jy r Q)(k:∀ a b,Q a b->kP (f a b) P):kP (jy r f) P:=by obtain ⟨a,b⟩:=r;exact k a b h
theorem kP.ite {c:Prop}[Decidable c]{a b:Option α}(h1:c->kP a P)(h2:¬ c->kP b P):kP (if c then a else b) P:=by
 by_cases h:c
 · rw [lX h];exact h1 h
 · rw [lW h];exact h2 h
theorem kP.el {x:Option (Ld σ ρ)}{f:σ->Option α}{g:ρ->Option α}{G:σ->Prop}{O:ρ->Prop}(h:kP x (pV G O))(h1:∀ s,G s->kP (f s) P)(h2:∀ o,O o->kP (g o) P):kP (x.bind fun r=>r.el f g) P:=by
 obtain ⟨v,rfl,hv⟩:=h;cases v with
 | go s=>exact h1 s hv
 | out o=>exact h2 o hv
theorem kP.eo {x:Option (Ld σ α)}{f:σ->Option α}{G:σ->Prop}(h:kP x (pV G P))(h1:∀ s,G s->kP (f s) P):kP (x.bind fun r=>r.el f fun o=>some o) P:=h.el h1 fun o ho=>.mk ho
theorem kP.Fa {τ:Type}{x:Option (Ld σ ρ)}{f:σ->Option (Ld τ ρ)}{G:σ->Prop}{G':τ->Prop}{O:ρ->Prop}(h:kP x (pV G O))(h1:∀ s,G s->kP (f s) (pV G' O)):kP (x.bind fun r=>r.el f fun o=>some (.out o)) (pV G' O):=h.el h1 fun o ho=>.mk ho
theorem kP.imp {x:Option α}{Q:α->Prop}(h:kP x Q)(k:∀ v,Q v->P v):kP x P:=by obtain ⟨v,h1,h2⟩:=h;exact ⟨v,h1,k v h2⟩
theorem kP.go {s:σ}{G:σ->Prop}{O:ρ->Prop}(h:G s):kP (some (Ld.go s)) (pV G O):=⟨_,rfl,h⟩
theorem kP.out {r:ρ}{G:σ->Prop}{O:ρ->Prop}(h:O r):kP (some (Ld.out r)) (pV G O):=⟨_,rfl,h⟩
theorem kP.ix {l:List α}{i:Int}(h0:0<=i)(h1:i < l.length):kP (ix l i) (fun x=>l[i.toNat]?=some x):=by obtain ⟨x,hx⟩:=mI (l:=l) (k:=i.toNat) (by omega);refine ⟨x,?_,hx⟩;unfold Go.Fw.ix;rw [lW (by omega),hx]
theorem kP.app {l m:List α}(h:l.length+m.length<=1000000000):kP (app l m) (fun r=>r=l ++ m):=⟨_,lX h,rfl⟩
theorem kP.sl {l:List α}{a b:Int}(h:0<=a/\a<=b/\b<=l.length):kP (sl l a b) (fun r=>r=(l.drop a.toNat).take (b - a).toNat):=⟨_,lX h,rfl⟩
theorem kP.st {l:List α}{i:Int}{x:α}(h:0<=i/\i < l.length):kP (st l i x) (fun r=>r=l.set i.toNat x):=⟨_,lX h,rfl⟩
theorem kP.cat {s t:ByteArray}(h:s.size+t.size<=1000000000):kP (cat s t) (fun r=>r=s ++ t):=⟨_,lX h,rfl⟩
theorem kP.ixs {s:ByteArray}{i:Int}(h0:0<=i)(h1:i < s.size):kP (ixs s i) (fun x=>0<=x/\x<=255):=by
 unfold Go.Fw.ixs;rw [lW (by omega)];have h:i.toNat < s.size:=by omega
 refine ⟨((s[i.toNat].toNat:Nat):Int),?_,by omega,?_⟩
 · rw [getElem?_pos s i.toNat h];rfl
 · have:=s[i.toNat].toNat_lt;omega
theorem kP.Vx {s:ByteArray}{a b:Int}(h:0<=a/\a<=b/\b<=s.size):kP (Vx s a b) (fun r=>r=s.extract a.toNat b.toNat):=⟨_,lX h,rfl⟩
theorem kP.Xh {x:Option β}{f:β->Option α}{Q:β->Prop}(h:kP x Q)(k:∀ v,x=some v->Q v->kP (f v) P):kP (x.bind f) P:=by obtain ⟨v,rfl,hv⟩:=h;exact k v rfl hv
end
theorem mg {n:Int}(h1:-9000000000000000000<=n)(h2:n<=9000000000000000000):wr n=n:=by unfold wr;exact Uo (by omega) (by omega)
theorem Eo (s t:ByteArray):(s ++ t).size=s.size+t.size:=ByteArray.size_append ..
end Go.Fw
set_option linter.unusedSimpArgs false
namespace Go.Proofs.YtdkneekpdecjbaaGreat
open Go.RowKit Go.Fw Go.Proofs.Tryz
structure TL (l:List kM):Prop where
 len:l.length<=5000
 last:∀ (k:Nat)(t:kM),k+1=l.length->l[k]?=some t->t.b=0
 name:∀ (k:Nat)(t:kM),l[k]?=some t->t.b=1->t.a≠(⟨#[]⟩:ByteArray)
structure PS (S:gP):Prop where
 tl:TL S.l
 lo:0<=S.a
 hi:S.a < S.l.length
structure Nx (S S':gP):Prop where
 l:S'.l=S.l
 lo:S.a<=S'.a
 hi:S'.a < S.l.length
 e:S'.e=0->S.e=0
theorem Nx.ps {S S':gP}(h:PS S)(k:Nx S S'):PS S':=⟨by rw [k.l];exact h.tl,by have:=h.lo;have:=k.lo;omega,by rw [k.l];exact k.hi⟩
theorem Nx.rfl' {S:gP}(h:PS S):Nx S S:=⟨rfl,vG _,h.hi,id⟩
theorem Nx.trans {S S' S2:gP}(h:Nx S S')(k:Nx S' S2):Nx S S2:=⟨k.l.trans h.l,Int.le_trans h.lo k.lo,by rw [<-h.l];exact k.hi,fun z=>h.e (k.e z)⟩
theorem Nx.step {S:gP}(h:PS S)(k:S.a+1 < S.l.length):Nx S ⟨S.l,wr (S.a+1),S.c,S.e⟩:=by have:=h.lo;have:=h.tl.len;have hw:wr (S.a+1)=S.a+1:=mg (by omega) (by omega);exact ⟨rfl,by dsimp only;omega,by dsimp only;omega,id⟩
theorem PS.QF {S:gP}(h:PS S):wr (S.a+1)=S.a+1:=by have:=h.lo;have:=h.tl.len;have:=h.hi;exact mg (by omega) (by omega)
theorem PS.more {S:gP}(h:PS S){t:kM}(ht:S.l[S.a.toNat]?=some t)(hk:t.b≠0):S.a+1 < S.l.length:=by
 have:=h.lo;have:=h.hi;by_cases hc:S.a.toNat+1=S.l.length
 · exact absurd (h.tl.last _ t hc ht) hk
 · omega
theorem DK {S:gP}{fu:Nat}{e:Int}(h:PS S)(he:e≠0):kP (qc fu S e) (fun S'=>Nx S S'/\S'.e≠0/\S'.a=S.a):=by
 unfold qc;refine .ite (fun c=>?_) (fun c=>?_)
 · refine .bd (.ix h.lo h.hi) fun t ht=>.mk ⟨⟨rfl,vG _,h.hi,fun z=>absurd z he⟩,he,rfl⟩
 · exact .mk ⟨Nx.rfl' h,c,rfl⟩
theorem CY {S:gP}{fu:Nat}{s:ByteArray}(h:PS S):kP (mU fu S 0 s) (fun b=>b=true->S.a+1 < S.l.length):=by
 unfold mU;have hw:wr (S.a+0)=S.a:=by have:=h.lo;have:=h.hi;have:=h.tl.len;rw [Int.add_zero];exact mg (by omega) (by omega)
 rw [hw];refine .ite (fun c=>.mk fun z=>by cases z) (fun c=>?_);refine .bd (.ix h.lo h.hi) fun t ht=>?_;refine .ite (fun c=>.mk fun _=>h.more ht (by omega)) (fun c=>?_);exact .ite (fun c=>.mk fun _=>h.more ht (by omega)) (fun c=>.mk fun z=>by cases z)
theorem adH {S:gP}{fu:Nat}{s:ByteArray}(h:PS S):kP (mU fu S 1 s) (fun b=>True):=by unfold mU;rw [h.QF];refine .ite (fun c=>.mk kI) (fun c=>?_);have:=h.lo;refine .bd (.ix (by omega) (by omega)) fun t ht=>?_;refine .ite (fun c=>.mk kI) (fun c=>?_);exact .ite (fun c=>.mk kI) (fun c=>.mk kI)
theorem Dt {S:gP}{fu:Nat}{k:Int}(h:PS S):kP (p9 fu S 0 k) (fun b=>∃ t,S.l[S.a.toNat]?=some t/\(b=true->t.b=k)/\(t.b=k->b=true)/\(b=true->k≠0->S.a+1 < S.l.length)):=by
 unfold p9;have hw:wr (S.a+0)=S.a:=by have:=h.lo;have:=h.hi;have:=h.tl.len;rw [Int.add_zero];exact mg (by omega) (by omega)
 rw [hw];refine .ite (fun c=>?_) (fun c=>absurd h.hi c);refine .bd (.ix h.lo h.hi) fun t ht=>.mk ⟨t,ht,fun z=>Ed z,fun z=>Gd z,fun z hk=>h.more ht (by have:=Ed z;omega)⟩
def Tk (S S':gP):Prop:=Nx S S'/\(S'.e=0->S'.a=S.a+1)
theorem tK {S:gP}{fu:Nat}{s:ByteArray}(h:PS S):kP (lZ fu S s) (Tk S):=by
 unfold lZ;refine .ite (fun c=>.mk ⟨Nx.rfl' h,fun z=>absurd z c⟩) (fun c=>?_);refine .bd (CY h) fun b hb=>?_;refine .ite (fun d=>?_) (fun d=>?_)
 · refine .bd (DK h (by decide)) fun S' hS=>.mk ⟨hS.1,fun z=>absurd z hS.2.1⟩
 · exact .mk ⟨Nx.step h (hb (by simpa using d)),fun _=>h.QF⟩
theorem CS {S:gP}{fu:Nat}(h:PS S):kP (oP fu S) (fun r=>jy r fun n S'=>Tk S S'/\(S'.e=0->n≠(⟨#[]⟩:ByteArray))/\(S.e=0->(∃ t,S.l[S.a.toNat]?=some t/\t.b=1)->S'.e=0)):=by
 unfold oP;refine .ite (fun c=>.mk ⟨⟨Nx.rfl' h,fun z=>absurd z c⟩,fun z=>absurd z c,fun z=>absurd z c⟩) (fun c=>?_);refine .bd (Dt h) fun b hb=>?_;obtain ⟨t,ht,hb1,hb3,hb2⟩:=hb;refine .ite (fun d=>?_) (fun d=>?_)
 · refine .bd (DK h (by decide)) fun S' hS=>.mk ⟨⟨hS.1,fun z=>absurd z hS.2.1⟩,fun z=>absurd z hS.2.1,fun _ ⟨t2,ht2,hk⟩=>?_⟩;rw [ht] at ht2;obtain rfl:=JY ht2;rw [hb3 hk] at d;cases d
 · have hw:wr (wr (S.a+1) - 1)=S.a:=by rw [h.QF];have:=h.lo;have:=h.hi;have:=h.tl.len;rw [mg (by omega) (by omega)];omega
   rw [hw];refine .bd (.ix h.lo h.hi) fun t2 ht2=>.mk ⟨⟨Nx.step h (hb2 (by simpa using d) (by decide)),fun _=>h.QF⟩,fun _=>?_,fun z _=>z⟩;rw [ht] at ht2;obtain rfl:=JY ht2;exact h.tl.name _ _ ht (hb1 (by simpa using d))
theorem JX {fu:Nat}{O:List ByteArray × gP→Prop}:∀ (n:Nat)(out:List ByteArray)(S:gP),PS S→S.l.length+1≤n+S.a→(S.e=0→(out.length:Int)≤S.a)→
  kP (rJ fu n out S.l S.a S.c S.e) (pV (fun r=>jy r fun o r=>jy r fun a r=>jy r fun b r=>jy r fun c d=>Nx S ⟨a,b,c,d⟩/\(d=0->(o.length:Int)<=b)) O)
 | 0,out,S,h,hn,ho=>by have:=h.hi;omega
 | n+1,out,S,h,hn,ho=>by
  rw [rJ];refine .ite (fun c=>?_) (fun c=>.go ⟨Nx.rfl' h,ho⟩);refine .bd (CY h) fun b hb=>?_;refine .ite (fun d=>?_) (fun d=>.go ⟨Nx.rfl' h,ho⟩);refine .bd (tK h) fun S1 h1=>?_;refine .bp (CS (h1.1.ps h)) fun nm S2 h2=>?_;have hl:=h.tl.len;have:=h.hi;refine .bd (.app (by have:=ho c;simp only [uX,zh];omega)) fun r hr=>?_;have k:=h1.1.trans h2.1.1;by_cases z:S2.e=0
  · have z1:S1.a=S.a+1:=h1.2 (h2.1.1.e z);have z2:=h2.1.2 z;refine (JX (O:=O) n r S2 (k.ps h) (by rw [k.l];dsimp only;omega) fun _=>?_).imp fun v hv=>?_
    · subst hr;have:=ho c;simp only [Ic,uX,zh];omega
    · obtain v | v:=v
      · obtain ⟨o,a,b,c,d⟩:=v;exact ⟨k.trans hv.1,hv.2⟩
      · exact hv
  · cases n with
    | zero=>have:S.a<=S1.a:=h1.1.lo;have:=h2.1.1.lo;omega
    | succ n=>
      rw [rJ,lW z];exact .go ⟨k,fun y=>absurd y z⟩
theorem SG {fu:Nat}{S:gP}(h:PS S)(hf:S.l.length+1<=fu):kP (xM fu S) (fun r=>jy r fun n S'=>Nx S S'/\(S'.e=0->n.length<=5000/\S.a < S'.a)):=by
 unfold xM;refine .bp (CS h) fun n S1 h1=>?_;have h2:=h1.1.1.ps h;have h3:=h2.lo;have h4:=h.lo;have h5:=h2.tl.len;refine .eo (JX fu [n] S1 h2 (by rw [h1.1.1.l];omega) fun z=>?_) fun s hs=>?_
 · have:=h1.1.2 z;simp only [uX,zh];omega
 · refine .pp hs fun o r hs=>.pp hs fun a r hs=>.pp hs fun b r hs=>.pp hs fun c d hs=>.mk ⟨h1.1.1.trans hs.1,fun z=>?_⟩;have k1:=hs.2 z;have k2:=hs.1.hi;have k3:=hs.1.lo;have k4:=h1.1.2 (hs.1.e z);dsimp only at k2 k3 ⊢;omega
theorem Vs {fu:Nat}{S:gP}(h:PS S):kP (yU fu S) (fun b=>b=true->S.a+1 < S.l.length):=by unfold yU;refine .bd (Dt h) fun b ⟨t,ht,hb,_,hb2⟩=>.ite (fun c=>.mk fun _=>hb2 c (by decide)) fun c=>?_;refine .bd (Dt h) fun b ⟨t,ht,hb,_,hb2⟩=>.ite (fun c=>.mk fun _=>hb2 c (by decide)) fun c=>?_;refine .bd (CY h) fun b hb=>.ite (fun c=>.mk fun _=>hb c) fun c=>?_;refine .bd (CY h) fun b hb=>.ite (fun c=>.mk fun _=>hb c) fun c=>?_;exact .bd (CY h) fun b hb=>.mk hb
theorem Kk {fu:Nat}{S:gP}(h:PS S):∀ (l:List ByteArray)(k:Nat),k+l.length≤12→kP (rD fu S l k) (pV (fun _=>True) (fun r=>jy r fun n op=>S.a+1 < S.l.length∧6≤op∧op≤17))
 | [],_,_=>.go kI
 | u :: r,k,hk=>by rw [rD];rw [uX] at hk;refine .bd (CY h) fun b hb=>.ite (fun c=>?_) fun c=>Kk h r (k+1) (by omega);refine .bd (.ix (by omega) (by simp only [uX,zh];omega)) fun e he=>.out ?_;rw [mg (by omega) (by omega)];exact ⟨hb c,by omega,by omega⟩
theorem Yf {fu:Nat}{S:gP}(h:PS S):kP (AO fu S) (fun r=>jy r fun n op=>n≠0->S.a+1 < S.l.length/\6<=op/\op<=17):=by unfold AO;refine .el (Kk h _ 0 (by decide)) (fun _ _=>.mk fun z=>absurd rfl z) fun o ho=>.mk ?_;obtain ⟨n,op⟩:=o;exact fun _=>ho
theorem Xq {fu:Nat}{S:gP}(h:PS S):kP (um fu S) (fun b=>b=true->∃ t,S.l[S.a.toNat]?=some t/\t.b=1):=by
 unfold um;refine .bd (Dt h) fun b ⟨t,ht,hb,_,hb2⟩=>.ite (fun c=>?_) fun c=>.mk fun z=>by cases z
 exact .bd (adH h) fun b2 _=>.mk fun _=>⟨t,ht,hb c⟩
theorem I9 {fu:Nat}{S:gP}(h:PS S):∀ (l:List ByteArray)(k:Nat),kP (qK fu S l k) (pV (fun _=>True) (fun r=>S.a+1 < S.l.length))
 | [],_=>.go kI
 | u :: r,k=>by rw [qK];exact .bd (CY h) fun b hb=>.ite (fun c=>.out (hb c)) fun c=>I9 h r (k+1)
theorem Vj {fu:Nat}{S:gP}(h:PS S):kP (xY fu S) (fun b=>b=true->S.a+1 < S.l.length):=by unfold xY;refine .el (I9 h _ 0) (fun _ _=>?_) fun o ho=>.mk fun _=>ho;exact .bd (Dt h) fun b ⟨t,ht,hb,_,hb2⟩=>.mk fun c=>hb2 c (by decide)
def Sx (x:jB):Prop:=0<=x.e/\x.e<=17/\x.a.length=if x.e < 3 then 0 else if x.e < 6 then 1 else 2
def Ca:Nat→jB→Prop
 | 0,_=>False
 | n+1,x=>(x.a.length<=5000/\Sx x)/\∀ y ∈ x.a,Ca n y
theorem Ca.mono:∀ {n m:Nat}{x:jB},Ca n x→n≤m→Ca m x
 | 0,_,_,h,_=>h.elim
 | n+1,0,_,h,k=>by omega
 | n+1,m+1,x,h,k=>⟨h.1,fun y hy=>Ca.mono (h.2 y hy) (by omega)⟩
theorem Ca.leaf {x:jB}(h:x.a=[])(o:0<=x.e/\x.e < 3):Ca 1 x:=⟨⟨by rw [h];decide,o.1,by omega,by rw [h,lX o.2];rfl⟩,fun y hy=>by rw [h] at hy;cases hy⟩
theorem Ca.two {n:Nat}{x y z:jB}(hx:Ca n x)(hy:Ca n y)(h:z.a=[x,y])(o:6<=z.e/\z.e<=17):Ca (n+1) z:=⟨⟨by rw [h];exact (by decide:2<=5000),by omega,o.2,by rw [h,lW (by omega),lW (by omega)];rfl⟩,fun q hq=>by
 rw [h] at hq;simp only [qg,Cm,or_false] at hq;rcases hq with rfl | rfl
 · exact hx
 · exact hy⟩
theorem Ca.one {n:Nat}{x z:jB}(hx:Ca n x)(h:z.a=[x])(o:3<=z.e/\z.e < 6):Ca (n+1) z:=⟨⟨by rw [h];exact (by decide:1<=5000),by omega,by omega,by rw [h,lW (by omega),lX o.2];rfl⟩,fun q hq=>by
 rw [h] at hq;simp only [qg,Cm,or_false] at hq;subst hq;exact hx⟩
def EP (S:gP)(x:jB)(S':gP):Prop:=Nx S S'/\(S'.e=0->S.a < S'.a/\∃ n:Nat,(n:Int)<=S'.a - S.a/\Ca n x)
theorem EP.eta {S S1:gP}{x:jB}(h:EP S x S1):EP S ⟨x.e,x.d,x.f,x.c,x.b,x.a⟩ ⟨S1.l,S1.a,S1.c,S1.e⟩:=by cases x;cases S1;exact h
def Uq (f:gP->Int->Int->Option (jB × gP))(fu:Nat):Prop:=∀ S least nest,PS S->1<=least->least<=5->0<=nest->nest<=9->S.l.length+10 * (10 - nest)+(6 - least)<=(fu:Int)->kP (f S least nest) (fun r=>jy r (EP S))
def Tun (f:gP->Int->Option (jB × gP))(fu:Nat):Prop:=∀ S nest,PS S->0<=nest->nest<=9->S.l.length+10 * (10 - nest)<=(fu:Int)->kP (f S nest) (fun r=>jy r (EP S))
def Ttg (f:gP->Int->Option (jB × gP))(fu:Nat):Prop:=∀ S nest,PS S->0<=nest->nest<=8->S.l.length+10 * (10 - nest)<=(fu:Int)+1->kP (f S nest) (fun r=>jy r fun x S'=>EP S x S'/\1<=x.e/\x.e<=3)
section
variable {fu:Nat}{f:gP->Int->Int->Option (jB × gP)}{g t:gP->Int->Option (jB × gP)}
theorem MV (hf:Uq f fu){least nest:Int}(h1:1<=least)(h2:least<=5)(h3:0<=nest)(h4:nest<=9){S0:gP}(h0:PS S0)(hb:S0.l.length+10 * (10 - nest)+(6 - least)<=(fu:Int)+1) :
  ∀ (n:Nat)(x:jB)(S:gP),S0.l.length+1<=n+S.a->EP S0 ⟨x.e,x.d,x.f,x.c,x.b,x.a⟩ ⟨S.l,S.a,S.c,S.e⟩->
  kP (pJ fu f g t least nest n x.e x.d x.f x.c x.b x.a S.l S.a S.c S.e)
   (pV (fun r=>jy r fun a r=>jy r fun b r=>jy r fun c r=>jy r fun d r=>jy r fun e r=>jy r fun f r=>jy r fun g r=>jy r fun h r=>jy r fun i j=>EP S0 ⟨a,b,c,d,e,f⟩ ⟨g,h,i,j⟩) (fun r=>jy r (EP S0)))
 | 0,x,S,hn,hx=>by have:=hx.1.hi;dsimp only at this;omega
 | n+1,x,S,hn,hx=>by
  rw [pJ];have hS:=hx.1.ps h0;refine .ite (fun c=>?_) (fun c=>.go hx);refine .ite (fun c2=>?_) (fun c=>.go hx);refine .bp (Yf hS) fun lv op hl=>?_;refine .ite (fun d=>.out hx) (fun d=>?_);obtain ⟨hl,ho⟩:=hl (by omega);have hs:=Nx.step hS hl;have hw:wr (least+1)=least+1:=mg (by omega) (by omega);rw [hw];refine .bp (hf _ _ _ (hs.ps hS) (by omega) (by omega) h3 h4 (by rw [hs.l,hx.1.l];omega)) fun y S1 hy=>?_;have hx':EP S0 ⟨op,0,0,be,be,[⟨x.e,x.d,x.f,x.c,x.b,x.a⟩,y]⟩ S1:=by refine ⟨(hx.1.trans hs).trans hy.1,fun z=>?_⟩;obtain ⟨a1,n1,a2,a3⟩:=hy.2 z;obtain ⟨b1,n2,b2,b3⟩:=hx.2 c;have hw:wr (S.a+1)=S.a+1:=hS.QF;dsimp only at a1 a2;rw [hw] at a1 a2;dsimp only at b1 b2;exact ⟨by omega,max n1 n2+1,by omega,Ca.two (b3.mono (by omega)) (a3.mono (by omega)) rfl ho⟩
  refine .ite (fun c3=>.out hx') fun c3=>?_;refine MV hf h1 h2 h3 h4 h0 hb n ⟨op,0,0,be,be,_⟩ S1 ?_ hx';have:=hy.1.lo;have hw:wr (S.a+1)=S.a+1:=hS.QF;dsimp only at this;omega
theorem abG (hf:Uq f fu)(hg:Tun g fu):Uq (tH fu f g t) (fu+1):=by
 intro S least nest h h1 h2 h3 h4 hb;unfold tH;have hA:kP (tu fu f g t S least nest) (pV (fun r=>jy r fun a r=>jy r fun b r=>jy r fun c r=>jy r fun d r=>jy r fun e r=>jy r fun f r=>jy r fun g r=>jy r fun h r=>jy r fun i j=>EP S ⟨a,b,c,d,e,f⟩ ⟨g,h,i,j⟩) (fun r=>jy r (EP S))):=by
  unfold tu;refine .ite (fun c=>?_) (fun c=>?_)
  · exact .bp (hg S nest h h3 h4 (by omega)) fun x S1 hx=>.go hx.eta
  · have hw:wr (least+1)=least+1:=mg (by omega) (by omega);rw [hw];exact .bp (hf S _ nest h (by omega) (by omega) h3 h4 (by omega)) fun x S1 hx=>.go hx.eta
 refine .eo hA fun s hs=>?_;refine .pp hs fun a r hs=>.pp hs fun b r hs=>.pp hs fun c r hs=>.pp hs fun d r hs=>.pp hs fun e r hs=>.pp hs fun f' r hs=>.pp hs fun g' r hs=>.pp hs fun h' r hs=>.pp hs fun i j hs=>?_;have:=h.lo;have:=hs.1.lo;dsimp only at this;refine .eo (MV hf h1 h2 h3 h4 h (by omega) fu ⟨a,b,c,d,e,f'⟩ ⟨g',h',i,j⟩ (by dsimp only;omega) hs) fun s hs=>?_;exact .pp hs fun a r hs=>.pp hs fun b r hs=>.pp hs fun c r hs=>.pp hs fun d r hs=>.pp hs fun e r hs=>.pp hs fun f' r hs=>.pp hs fun g' r hs=>.pp hs fun h' r hs=>.pp hs fun i j hs=>.mk hs
theorem Kn (hg:Tun g fu){S:gP}{nest:Int}(h:PS S)(h3:0≤nest)(h4:nest≤8)(hb:S.l.length+10 * (9 - nest)≤(fu:Int)):∀ (l:List ByteArray)(k:Nat),k+l.length≤2→
  kP (rM fu f g t S nest l k) (pV (fun _=>True) (fun r=>jy r (EP S)))
 | [],_,_=>.go kI
 | u :: r,k,hk=>by rw [uX] at hk;rw [rM];refine .bd (CY h) fun b hb2=>.ite (fun c=>?_) fun c=>Kn hg h h3 h4 hb r (k+1) (by omega);have hs:=Nx.step h (hb2 c);have hw:wr (nest+1)=nest+1:=mg (by omega) (by omega);rw [hw];refine .bp (hg _ _ (hs.ps h) (by omega) (by omega) (by dsimp only;omega)) fun x S1 hx=>.out ⟨hs.trans hx.1,fun z=>?_⟩;obtain ⟨a1,n1,a2,a3⟩:=hx.2 z;have hw:wr (S.a+1)=S.a+1:=h.QF;dsimp only at a1 a2;rw [hw] at a1 a2;exact ⟨by omega,n1+1,by omega,Ca.one a3 rfl (by dsimp only;rw [mg (by omega) (by omega)];omega)⟩
theorem X0 (hf:Uq f fu)(hg:Tun g fu)(ht:Ttg t fu):Tun (Aw fu f g t) (fu+1):=by
 intro S nest h h3 h4 hb;unfold Aw;refine .ite (fun c=>.mk ⟨Nx.rfl' h,fun z=>absurd z c⟩) fun c=>?_;refine .bd (Vs h) fun b hb2=>.ite (fun d=>?_) fun d=>?_
 · exact .bd (DK h (by decide)) fun S1 h1=>.mk ⟨h1.1,fun z=>absurd z h1.2.1⟩
 have hm:=hb2 (by simpa using d);have hs:=Nx.step h hm;have hw:wr (S.a+1)=S.a+1:=h.QF;refine .ite (fun d=>?_) fun d=>?_
 · exact .bd (DK h (by decide)) fun S1 h1=>.mk ⟨h1.1,fun z=>absurd z h1.2.1⟩
 refine .eo (Kn hg h h3 (by omega) (by omega) _ 0 (by decide)) fun _ _=>?_;refine .bd (Dt h) fun b _=>.ite (fun c2=>?_) fun c2=>?_
 · have hw2:wr (wr (S.a+1) - 1)=S.a:=by rw [hw];have:=h.lo;have:=h.hi;have:=h.tl.len;rw [mg (by omega) (by omega)];omega
   rw [hw2];refine .bd (.ix h.lo h.hi) fun e he=>.mk ⟨hs,fun _=>?_⟩;dsimp only;rw [hw];exact ⟨by omega,1,by omega,Ca.leaf rfl (by dsimp only;omega)⟩
 refine .bd (CY h) fun b _=>.ite (fun c3=>?_) fun c3=>?_
 · have hwn:wr (nest+1)=nest+1:=mg (by omega) (by omega);rw [hwn];refine .bp (hf _ _ _ (hs.ps h) (by decide) (by decide) (by omega) (by omega) (by dsimp only;omega)) fun x S1 hx=>?_;refine .bd (tK ((hs.trans hx.1).ps h)) fun S2 h2=>.mk ⟨(hs.trans hx.1).trans h2.1,fun z=>?_⟩;obtain ⟨a1,n1,a2,a3⟩:=hx.2 (h2.1.e z);have:=h2.1.lo;dsimp only at a1 a2;rw [hw] at a1 a2;exact ⟨by omega,n1,by omega,a3⟩
 · exact .bp (ht S nest h h3 (by omega) (by omega)) fun x S1 hx=>.mk hx.1
theorem Vg (hf:Uq f fu):Ttg (yj fu f g t) (fu+1):=by
 intro S nest h h3 h4 hb;unfold yj;refine .bp (CS h) fun n S1 h1=>?_;have hS1:=h1.1.1.ps h;have hl:=h1.1.1.l;have hw:S1.e=0->wr (S1.a+1)=S1.a+1:=fun _=>hS1.QF;have hJ:kP (xw fu f g t n S1) (pV (fun _=>True) (fun r=>jy r fun x S'=>EP S x S'/\1<=x.e/\x.e<=3)):=by unfold xw;refine .ite (fun c=>?_) fun c=>.go kI;refine .bd (CY hS1) fun b hb2=>.ite (fun d=>?_) fun d=>.go kI;have hs:=Nx.step hS1 (hb2 d);refine .bp (CS (hs.ps hS1)) fun n2 S2 h2=>.out ⟨⟨(h1.1.1.trans hs).trans h2.1.1,fun z=>?_⟩,by dsimp only;omega,by dsimp only;omega⟩;have a1:=h1.1.2 c;have a2:=h2.1.1.lo;dsimp only at a2;rw [hw c] at a2;exact ⟨by omega,1,by omega,Ca.leaf rfl (by dsimp only;omega)⟩
 have hend:∀ x:jB,x.a=[]->x.e=1->EP S x S1:=fun x hx ho=>⟨h1.1.1,fun z=>by have a1:=h1.1.2 z;exact ⟨by omega,1,by omega,Ca.leaf hx (by omega)⟩⟩;refine .eo hJ fun _ _=>?_;refine .ite (fun c=>?_) fun c=>.mk ⟨hend _ rfl rfl,by dsimp only;omega,by dsimp only;omega⟩;refine .bd (CY hS1) fun b hb2=>.ite (fun d=>?_) fun d=>.mk ⟨hend _ rfl rfl,by dsimp only;omega,by dsimp only;omega⟩;have hs:=Nx.step hS1 (hb2 d);have hwn:wr (nest+1)=nest+1:=mg (by omega) (by omega);rw [hwn];refine .bp (hf _ _ _ (hs.ps hS1) (by decide) (by decide) (by omega) (by omega) (by dsimp only;rw [hl];omega)) fun x S2 hx=>?_;refine .bd (tK ((hs.trans hx.1).ps hS1)) fun S3 h3=>.mk ⟨⟨(h1.1.1.trans (hs.trans hx.1)).trans h3.1,fun z=>?_⟩,by dsimp only;omega,by dsimp only;omega⟩;obtain ⟨a1,n1,a2,a3⟩:=hx.2 (h3.1.e z);have a4:=h1.1.2 c;have a5:=h3.1.lo;dsimp only at a1 a2;rw [hw c] at a1 a2;exact ⟨by omega,n1+1,by omega,Ca.one a3 rfl (by dsimp only;omega)⟩
end
theorem yc:∀ fu:Nat,Uq (mq fu) fu∧Tun (AR fu) fu∧Ttg (tX fu) fu
 | 0=>by refine ⟨fun S a b h _ _ _ _ hb=>?_,fun S b h _ _ hb=>?_,fun S b h _ _ hb=>?_⟩;all_goals have:=h.hi;have:=h.lo;omega
 | fu+1=>⟨abG (yc fu).1 (yc fu).2.1,X0 (yc fu).1 (yc fu).2.1 (yc fu).2.2,Vg (yc fu).1⟩
end Go.Proofs.YtdkneekpdecjbaaGreat
