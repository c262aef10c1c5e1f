/-
  Texts of one proof, laid together: Hv16 Hv17 Hv21 Hv22 Hv23.
-/
import Derived.Test.YtghmbpmaafnodaaDoorMC
set_option linter.unusedVariables false
set_option linter.unusedSimpArgs false
set_option linter.defProp false
open Option renaming some→D,none→C
open Bool renaming true→X,false→U
namespace Go.bs
section
variable {E:Env}{P:Program}{call:az}{ops:Array Oper}{ord:List Nat}{ev cD:bb}{H0 bR:ad}{T:List bN}{ρ0:Env}{w0:World}{Q:Exit->Act->World->Prop}
def Ctx.uniq(c:Ctx P call ops ord ev H0 T cD bR){A B:List bN}{t:bN}(h:T=A++t::B){u:bN}(hu:u∈T)(he:u.i=t.i):u=t:=by
 rw[h]at hu;rcases List.mem_append.1 hu with hu|hu
 ·exact absurd he (c.before h hu).1
 ·rcases List.mem_cons.1 hu with rfl|hu
  ·rfl
  ·exact absurd he.symm (c.after h hu).1
def uX(H0:ad)(T:List bN)(N:Nat)(ρ0:Env)(w0:World)(L:Nat->Bool)(ρ:Env)(w:World)(T1 T2:List bN):Prop:=T=T1++T2/\(∀t∈T1,t.k.fb=X->L t.i=X)/\(∀t∈T2,(∃v H,t.k= .ea v H)->L t.i=U)/\e0 ρ0 H0 w0 N (eb L T2 (cr T1 H0)) ρ (cr T1 H0) w
def Ctx.next(c:Ctx P call ops ord ev H0 T cD bR){A B:List bN}{t:bN}(h:T=A++t::B){listed:Array Bool}(ax:listed.size=ops.size)(z:qE ops (c6 listed))(N:c6 listed t.i=U)
  (hw:o8 (c6 listed) t.o) {ρ:Env} {l:bb} {a:Act} {x:Value} {w:World} (R:dN ρ l a) (K:l.size=ev.size) (S:∀d,l.get d=fI (c6 listed) d T (ev.get d)) (Q:bg ρ t.k.val x) {T1 T2:List bN}
  (m:uX H0 T bR.next ρ0 w0 (c6 (listed.setIfInBounds t.i X)) ρ w T1 T2):Inv ops ev H0 T bR.next ρ0 w0 (listed.setIfInBounds t.i X) (a.put t.o.dst x) w:=by
 obtain⟨H,_,_,L⟩:=c.at h;have F:t.i<listed.size:=by rw[ax];exact(Array.getElem?_eq_some_iff.1 H).1
 have v:c6 (listed.setIfInBounds t.i X) t.i=true:=by rw[tj F];simp
 have n:∀j,j≠t.i->c6 (listed.setIfInBounds t.i X) j=c6 listed j:=λj s=>by rw[tj F];simp[s]
 have G:∀j,c6 listed j=X->c6 (listed.setIfInBounds t.i X) j=true:=λj s=>by
  by_cases e:j=t.i
  ·rw[e];exact v
  ·rw[n j e];exact s
 have O:∃a_,l.put t.o.dst t.k.val=D a_:=by
  cases M:t.o.dst with
  |none=>exact⟨l,rfl⟩
  |some d=>
   have:=L d M;exact⟨{l with t:=bp.put t.k.val (d+1) l.t d},by simp only[bb.put];rw[if_pos (by rw[K];exact this)]⟩
 obtain⟨a_,p⟩:=O;refine⟨by simpa using ax,λi o q E e he y=> ?_,ρ,T1,T2,m.1,m.2.1,m.2.2.1,m.2.2.2,a_,R.put p Q,by rw[bb.qm p,K],λd=> ?_⟩
 ·by_cases u:i=t.i
  ·subst u;rw[H]at q;cases q;exact G _ (hw e he y)
  ·rw[n i u]at E;exact G _ (z i o q E e he y)
 ·rw[bb.rh p d,c.u9 h z N v n d,S d]
def Ctx.norm(c:Ctx P call ops ord ev H0 T cD bR){N:Nat}{L:Nat->Bool}{ρ:Env}{w:World}:∀{T2 T1:List bN},uX H0 T N ρ0 w0 L ρ w T1 T2->
  ∃y n,uX H0 T N ρ0 w0 L ρ w y n/\∀u e,n=u::e->u.k.fb=X/\L u.i=U
 |[],T1,m=>⟨T1,[],m,λu e h=>by cases h⟩
 |u::T2,T1,m=>by
  by_cases j:u.k.fb=X/\L u.i=U
  ·exact⟨T1,u::T2,m,λE e h=>by simp only[List.cons.injEq]at h;rw[<-h.1];exact j⟩
  ·obtain⟨o,z,p,A⟩:=m;have s:=qV c.aK;rw[o]at s;have B:=(eC.append s).2;have m':=e0.turns (zC:=[u]) (zD:=T2) (L:=L) B (λv a d=>by
    have:v=u:=by simpa using a
    subst this;have l:L v.i=true:=by
     cases a:L v.i with
     |true=>rfl
     |false=>exact absurd ⟨d,a⟩ j
    refine⟨l,?_⟩;cases q:v.k with
    |new x b=>exact⟨x,b,rfl⟩
    |ea x H=>rw[p v (by simp) ⟨x,H,q⟩]at l;cases l
    |_=>rw[q]at d;cases d) A
   rw[<-j4]at m';refine c.norm (T2:=T2) (T1:=T1++[u]) ⟨by rw[o];simp,λv a d=> ?_,λv a=>p v (by simp[a]),m'⟩;rcases List.mem_append.1 a with a|a
   ·exact z v a d
   ·have:v=u:=by simpa using a
    subst this;cases a:L v.i with
    |true=>rfl
    |false=>exact absurd ⟨d,a⟩ j
def xd{L:Nat->Bool}{u:bN}{v:aa}{b:bW}(hu:u.k= .new v b)(e:L u.i=X):∀{zC zD:List bN} {H:ad},eC H (zC++u::zD)->eb L (zC++u::zD) H (cr zC H).next=D b
 |[],zD,H,_=>by simp[eb,hu,e,cr]
 |c::zC,zD,H,hm=>by
  have a:=xd hu e (zC:=zC) (zD:=zD) hm.2;have hle:∀{zC:List bN} {H:ad},eC H zC->H.next<=(cr zC H).next:=by
   intro zC
   induction zC with
   |nil=>intro H _;exact bj _
   |cons x zC n=>intro H h;exact Nat.le_trans h.1 (n h.2)
  by_cases l:∃v b,c.k= .new v b
  ·obtain⟨o,cl,j⟩:=l;have d:=hle (eC.append hm.2).1;have m:=hm.2;rw[j]at d m a;simp only[K.heap,ad.bX]at d a;simp only[List.cons_append,eb,j,cr,K.heap];rw[if_neg af];exact a
  ·rw[List.cons_append,rO λv b h=>l ⟨v,b,h⟩,cr];exact a
def v8{l:Nat}:∀{zC:List bN} {H:ad},(∀x∈zC,mB x.k=X)->l<H.next->(cr zC H).get l=H.get l
 |[],H,_,_=>rfl
 |c::zC,H,a,i=>by
  have e:=a c (by simp);rw[cr];cases h:c.k with
  |new v b=>
   rw[v8 (λx d=>a x (by simp[d])) (by simp only[K.heap,ad.bX];omega)];exact ad.dw af
  |ea v H'=>rw[h]at e;cases e
  |_=>exact v8 (λx d=>a x (by simp[d])) i
def Rel.K_{ρ:Env}{H:ad}{w:World}{b:bW}(h:b≠ .dead->∃loc,ρ H.next=D loc/\iP ρ w loc b):Rel ρ (H.push b).only w where
 row l ro esz els a:=by
  obtain⟨rfl,rfl⟩:=ad.rJ a;obtain⟨loc,c,d⟩:=h (by intro e;cases e);exact⟨loc,c,d⟩
 map l es a:=by
  obtain⟨rfl,rfl⟩:=ad.rJ a;obtain⟨loc,c,d⟩:=h (by intro e;cases e);exact⟨loc,c,d⟩
 b1 l t esz els a:=by
  obtain⟨rfl,rfl⟩:=ad.rJ a;obtain⟨loc,c,d⟩:=h (by intro e;cases e);exact⟨loc,c,d⟩
 apart l l' loc j c d i _ _:=by
  exfalso;have aT:∃x,(H.push b).only.get l=D x:=by
   unfold ad.rw at c;cases a:(H.push b).only.get l with
   |none=>simp[a]at c
   |some x=>exact⟨x,rfl⟩
  have a2:∃x,(H.push b).only.get l'=D x:=by
   unfold ad.live at d;cases a:(H.push b).only.get l' with
   |none=>simp[a]at d
   |some x=>exact⟨x,rfl⟩
  obtain⟨x,aT⟩:=aT;obtain⟨y,a2⟩:=a2;exact i ((ad.rJ aT).1.trans (ad.rJ a2).1.symm)
def Ctx.any(c:Ctx P call ops ord ev H0 T cD bR)(bv:jn E P call)(bq:E.le ρ0)(bu:∀ρ a w,dN ρ cD a->Step ρ0 H0 w0 ρ bR w->Q .normal a w):
  ∀(fuel:Nat) (listed:Array Bool) (a:Act) (w:World),Inv ops ev H0 T bR.next ρ0 w0 listed a w->(List.range ops.size).countP (λj=> !c6 listed j)<=fuel->wpAny P .any ops Q fuel listed a w:=by
 have a9:∀listed a w,Inv ops ev H0 T bR.next ρ0 w0 listed a w->Region.ready .any ops listed=[]->Q .normal a w:=by
  intro listed a w s av;obtain⟨ρ,n,V⟩:=c.final s (c.HO s.size av);exact bu ρ a w n V
 intro fuel
 induction fuel with
 |zero=>
  intro listed a w s bw;have av:Region.ready .any ops listed=[]:=by
   rw[List.eq_nil_iff_forall_not_mem];intro i aW;obtain⟨o,n,V,aR,aS⟩:=EE aW s.size;have b3:0<(List.range ops.size).countP (λj=> !c6 listed j):=List.countP_pos_iff.2 ⟨i,by simpa using aS,by simp[V]⟩;omega
  exact⟨av,a9 _ _ _ s av⟩
 |succ fuel aD=>
  intro listed a w s bw;refine⟨λav=>a9 _ _ _ s av,λi aW=> ?_⟩;obtain⟨o,ak,aa,hw,aY⟩:=EE aW s.size;have bi:=c.xf;simp only[pS,Bool.and_eq_true,List.all_eq_true,List.mem_range]at bi;have bh:=bi.1 i aY;rw[List.contains_iff_mem,<-(kF c.aK).1,List.mem_map]at bh;obtain⟨t,ab,rfl⟩:=bh;have bG:=c.mem ab;obtain rfl:t.o=o:=Option.some.inj (bG.symm.trans ak);obtain⟨ρ,T1,T2,an,aE,bn,m,a3,aj,a2,aN⟩:=s.mid;have bj:t.i<listed.size:=by rw[s.size];exact aY
  have am:c6 (listed.setIfInBounds t.i X) t.i=true:=by rw[tj bj];simp
  have S:∀j,j≠t.i->c6 (listed.setIfInBounds t.i X) j=c6 listed j:=λj ap=>by rw[tj bj];simp[ap]
  have aU:(List.range ops.size).countP (λj=> !c6 (listed.setIfInBounds t.i X) j)<=fuel:=by
   have:=zP (p:=λj=> !c6 listed j) (q:=λj=> !c6 (listed.setIfInBounds t.i X) j) (i:=t.i) (l:=List.range ops.size) (by simpa using aY)
    (λj ap=>by
     by_cases e:j=t.i
     ·rw[e,am]at ap;cases ap
     ·simp only[S j e]at ap;exact ap) (by simp[aa]) (by simp[am])
   omega
  obtain⟨aO,aH,G⟩:=List.append_of_mem ab;have bf:∀d∈t.o.looksAt ops,a3.get d=t.ae.get d:=λd bx=>by rw[aN d];exact c.looks G s.closed hw aa d bx
  have aM:=Iq bf;have bH:Region.wanted t.o (yielded ops a.tmps)=kB ops t.ae t.o:=(yZ aj t.o).trans (Ir bf);unfold wpOp;rw[ak];simp only[bH];have still:t.k.fb=U->∀x,bg ρ t.k.val x->wpAny P .any ops Q fuel (listed.setIfInBounds t.i X) (a.put t.o.dst x) w:=by
   intro z x F;refine aD _ _ _ (c.next G s.size s.closed aa hw aj a2 aN F (T1:=T1) (T2:=T2) ⟨an,λu hu ai=> ?_,λu hu al=> ?_,?_⟩) aU
   ·have:=aE u hu ai;by_cases e:u.i=t.i
    ·rw[e];exact am
    ·rw[S _ e];exact this
   ·have au:u.i≠t.i:=λe=>by
     have:=c.uniq G (by rw[an];simp[hu]) e;subst this;obtain⟨v,H,R⟩:=al;rw[R]at z;cases z
    rw[S _ au];exact bn u hu al
   ·rw[rM (L':=c6 listed) λu hu v b R=>S _ λe=>by
     have:=c.uniq G (by rw[an];simp[hu]) e;subst this;rw[R]at z;cases z]
    exact m
  rcases pA (c.at G).2.2.1 with⟨aw,R⟩|⟨aw,R⟩
  ·rw[aw];simp only[if_true];refine .inl ?_;have a4:t.k.fb=X->∃zC zD,T2=zC++t::zD:=λz=>by
    rw[an]at ab;rcases List.mem_append.1 ab with ab|ab
    ·have:=aE t ab z;rw[aa]at this;cases this
    ·exact List.append_of_mem ab
   have aq:=qV c.aK;cases y:t.k with
   |skip=>rw[y]at R;exact R.elim
   |pure v=>
    rw[y]at R;have W:=lj.congr (λx F=>(aM x F).symm) R;exact Ej W aj λx F=>still (by rw[y];rfl) x (by rw[y];exact F)
   |read v=>
    obtain⟨aJ,aQ,⟨f1,f2,f3,f4⟩,f5⟩:=c.norm (ρ0:=ρ0) (w0:=w0) (N:=bR.next) (L:=c6 listed) (ρ:=ρ) (w:=w) (T2:=T2) (T1:=T1) ⟨an,aE,bn,m⟩;have aL:∃aP,Rel ρ aP w/\hh P t.o.op t.ae aP=D v:=by
     rcases G3 y c.PY ab with bz|bE
     ·
       refine⟨_,f4.rel,?_⟩;have bc:hh P t.o.op t.ae (cr aO H0)=D v:=by
        rcases pA (c.at G).2.2.1 with⟨_,bb⟩|⟨F,_⟩
        ·rw[y]at bb;exact bb
        ·rw[aw]at F;cases F
       have ba:∀u∈T,u.k.fb=X->u.i≠t.i/\(di (dF ops) u.i t.i=X\/di (dF ops) t.i u.i=X):=λu hu z=>by
        have au:u.i≠t.i:=λe=>by
         have:=c.uniq G hu e;subst this;rw[y]at z;cases z
        obtain⟨bZ,b0,n⟩:=List.append_of_mem hu;refine⟨au,Ps bz ?_ au (c.at n).1 (Cz (c.at n).2.2.1 z)⟩;rw[<-(kF c.aK).1,List.mem_map];exact⟨u,hu,rfl⟩
       have bC:∀u∈aO,u.k.fb=X->c6 listed u.i=true:=λu hu z=>by
        rcases(ba u (by rw[G];simp[hu]) z).2 with n|n
        ·exact kD s.closed _ _ ak hw _ n
        ·have:=(c.before G hu).2.1;rw[n]at this;cases this
       have bA:∀u∈aH,u.k.fb=X->c6 listed u.i=false:=λu hu z=>by
        have bk:u∈T:=by rw[G];simp[hu]
        rcases(ba u bk z).2 with n|n
        ·have:=(c.after G hu).2.1;rw[n]at this;cases this
        ·cases ah:c6 listed u.i with
         |false=>rfl
         |true=>
          have aC:=c.mem bk;have:=kD s.closed _ _ aC (s.closed _ _ aC ah) _ n;rw[aa]at this;cases this
       have a1:aJ++aQ=aO++t::aH:=by rw[<-f1,<-G]
       rcases List.append_eq_append_iff.1 a1 with⟨a',ay,aT⟩|⟨c',ao,ag⟩
       ·cases a' with
        |nil=>rw[List.append_nil]at ay;rw[<-ay];exact bc
        |cons u bp=>
         obtain⟨g1,g2⟩:=f5 u (bp++t::aH) aT;have:=bC u (by rw[ay];simp) g1;rw[g2]at this;cases this
       ·have bF:∀(aG:List bN) (H:ad),(∀u∈aG,u.k.fb=U)->cr aG H=H:=by
         intro aG
         induction aG with
         |nil=>intro H _;rfl
         |cons u aG aD=>intro H a5;rw[cr,s3 (a5 u (by simp))];exact aD H λu hu=>a5 u (by simp[hu])
        rw[ao,j4,bF c' _ ?_]
        ·exact bc
        ·intro u hu;cases z:u.k.fb with
         |false=>rfl
         |true=>
          have n:=f2 u (by rw[ao];simp[hu]) z;have V:u∈t::aH:=by rw[ag];simp[hu]
          rcases List.mem_cons.1 V with rfl|V
          ·rw[y]at z;cases z
          ·have:=bA u V z;rw[n]at this;cases this
     ·rcases OO bE with bl|bD
      rotate_left
      ·obtain⟨A,u,B,bV,b,g1,g2,g3,g4,g5⟩:=DG bD;refine⟨_,Rel.K_ λaz=> ?_,EC g5⟩;have ah:=kD s.closed _ _ ak hw _ g3;have a1:aJ++aQ=A++u::B:=by rw[<-f1,<-g1]
       rcases List.append_eq_append_iff.1 a1 with⟨a',ay,aT⟩|⟨c',ao,ag⟩
       ·have aI:=f4.jh (cr A H0).next b (by
         rw[f1]at aq;have M:=(eC.append aq).2;rw[aT]at M ⊢;rw[ay,j4];exact xd g2 ah M)
        obtain⟨_,_,_,loc,aF,ax,_⟩:=aI;exact⟨loc,aF,ax⟩
       ·cases c' with
        |nil=>
         have aI:=f4.jh (cr A H0).next b (by
          rw[f1]at aq;have M:=(eC.append aq).2;rw[List.nil_append]at ag;rw[List.append_nil]at ao;rw[<-ag]at M ⊢;rw[ao]at M ⊢;exact xd (zC:=[]) g2 ah M)
         obtain⟨_,_,_,loc,aF,ax,_⟩:=aI;exact⟨loc,aF,ax⟩
        |cons x b2=>
         simp only[List.cons_append,List.cons.injEq]at ag;obtain⟨rfl,ag⟩:=ag;have aV:(cr aJ H0).get (cr A H0).next=D b:=by
          rw[ao,j4,cr,g2];rw[v8 (λx F=>g4 x (by rw[ag];simp[F])) (by simp[K.heap])];exact ad.bI _ b
         cases b with
         |row ro esz els=>exact f4.rel.row _ _ _ _ aV
         |map es=>exact f4.rel.map _ _ aV
         |b1 t esz els=>exact f4.rel.b1 _ _ _ _ aV
         |dead=>exact absurd rfl az
      refine⟨_,f4.rel,?_⟩;rw[show jO (dF ops) (oa P t.o.op t.ae v) t.i T H0=jO (dF ops) (oa P t.o.op t.ae v) t.i (aJ++aQ) H0 by rw[<-f1]]at bl;exact EC (ya bl (λu hu ai=>by
       cases az:di (dF ops) t.i u.i with
       |false=>rfl
       |true=>
        have aC:=c.mem (t:=u) (by rw[f1];simp[hu]);have:=kD s.closed _ _ aC (s.closed _ _ aC (f2 u hu ai)) _ az;rw[aa]at this;cases this) (λu bo hu=>by
       obtain⟨g1,g2⟩:=f5 u bo hu;refine⟨g1,?_⟩;cases az:di (dF ops) u.i t.i with
       |false=>rfl
       |true=>
        have:=kD s.closed _ _ ak hw _ az;rw[g2]at this;cases this))
    obtain⟨aP,bJ,aL⟩:=aL;rw[<-yP aM]at aL;exact ED bJ aL aj λx F=>still (by rw[y];rfl) x (by rw[y];exact F)
   |new v b=>
    obtain⟨zC,zD,O⟩:=a4 (by rw[y];rfl);have n:T=(T1++zC)++t::zD:=by rw[an,O];simp
    have aX:=(c.at n).2.2.1;rcases pA aX with⟨_,aA⟩|⟨F,_⟩
    ·rw[y]at aA;have W:=lj.congr (λx F=>(aM x F).symm) aA;have M:eC (cr T1 H0) (zC++t::zD):=by
      have:=aq;rw[an,O]at this;exact(eC.append this).2
     obtain⟨aF,ax⟩:=Ec (L:=c6 listed) (L':=c6 (listed.setIfInBounds t.i X)) y aa am M
      (λu hu=>(S _ (c.before n (by simp[hu])).1).symm) (λu hu=>(S _ (Ne.symm (c.after n hu).1)).symm)
     have a_:(cr T1 H0).next<=(cr zC (cr T1 H0)).next:=(eC.append M).1.le
     have be:(cr zC (cr T1 H0)).next<bR.next:=by
      have V:=(eC.append M).2;have aR:=V.2.le;rw[y]at aR;have aS:bR=cr zD (K.heap (cr zC (cr T1 H0)) (.new v b)):=by
       rw[(kF c.aK).2.1,n,j4,j4,cr,y]
      rw[aS];simp only[K.heap,ad.bX]at aR ⊢;omega
     rw[O]at m;have bB:jt P t.o.op a3 (cr zC (cr T1 H0)).next=D (v,b):=by rw[<-j4];exact W
     refine DH bB aj (m.fresh _ a_ be ax) λx bW bY loc a6 bm bO bP bQ bS fH bT bU bK bL bM=> ?_
     have m':=m.early a_ be ax bm bO bP bQ bS fH bT bU bK bL bM;rw[<-aF]at m';refine aD _ _ _ (c.next G s.size s.closed aa hw (aj.mono bm) a2 aN (by rw[y];exact a6) (T1:=T1) (T2:=zC++t::zD) ⟨by rw[an,O],λu hu ai=> ?_,λu hu al=> ?_,m'⟩) aU
     ·have:=aE u hu ai;by_cases e:u.i=t.i
      ·rw[e];exact am
      ·rw[S _ e];exact this
     ·have au:u.i≠t.i:=λe=>by
       have:=c.uniq G (by rw[an,O];simp at hu ⊢;exact .inr hu) e;subst this;obtain⟨bV,H,W⟩:=al;rw[y]at W;cases W
      rw[S _ au];exact bn u (by rw[O];exact hu) al
    ·rw[aw]at F;cases F
   |ea v H'=>
    obtain⟨zC,zD,O⟩:=a4 (by rw[y];rfl);have n:T=(T1++zC)++t::zD:=by rw[an,O];simp
    have aX:=(c.at n).2.2.1;rcases pA aX with⟨_,aA⟩|⟨F,_⟩
    ·rw[y]at aA;have W:=lj.congr (λx F=>(aM x F).symm) aA;have M:eC (cr T1 H0) (zC++t::zD):=by
      have:=aq;rw[an,O]at this;exact(eC.append this).2
     have a8:=c.ea;rw[n]at a8;have a7:=(sN a8 y).2;rw[O]at m;have m1:=e0.turns (zC:=zC) (zD:=t::zD) (L:=c6 listed) M (λu hu z=>by
      have ah:=kD s.closed _ _ ak hw _ (a7 u (by simp[hu]) z);refine⟨ah,?_⟩;cases bd:u.k with
      |new x b=>exact⟨x,b,rfl⟩
      |ea x H=>rw[bn u (by rw[O];simp[hu]) ⟨x,H,bd⟩]at ah;cases ah
      |_=>rw[bd]at z;cases z) m
     rw[rO (λv b h=>by rw[y]at h;cases h),y]at m1;simp only[K.heap]at m1;have aZ:eC H' zD:=by have:=(eC.append M).2.2;rw[y]at this;exact this
     have bs:bR=cr zD H':=by rw[(kF c.aK).2.1,n,j4,cr,y];rfl
     have bt:H'.next<=bR.next:=by rw[bs];exact aZ.le
     rw[j4]at W;refine zU (H:=cr zC (cr T1 H0)) (H':=H') bv m1.rel ⟨λl g1 g2=>m1.fresh l g1 af ?_,Env.le_trans bq m1.le⟩ W aj λx bW bY g1 g2=> ?_
     ·cases a0:eb (c6 listed) zD H' l with
      |none=>rfl
      |some b=>have:=rN aZ a0;omega
     ·have m2:=m1.step g2 bt (λl b a0=>rN aZ a0);refine aD _ _ _ (c.next G s.size s.closed aa hw (aj.mono g2.le) a2 aN (by rw[y];exact g1) (T1:=T1++zC++[t]) (T2:=zD) ⟨by rw[n];simp,λu hu ai=> ?_,λu hu al=> ?_,?_⟩) aU
      ·by_cases e:u.i=t.i
       ·rw[e];exact am
       ·rw[S _ e];simp only[List.mem_append,List.mem_singleton]at hu;rcases hu with(hu|hu)|rfl
        ·exact aE u hu ai
        ·exact kD s.closed _ _ ak hw _ (a7 u (by simp[hu]) ai)
        ·exact absurd rfl e
      ·rw[S _ (Ne.symm (c.after n hu).1)];exact bn u (by rw[O];simp[hu]) al
      ·have br:cr (T1++zC++[t]) H0=H':=by rw[j4,cr,y];rfl
       rw[br,rM (L':=c6 listed) λu hu v b R=>S _ (Ne.symm (c.after n hu).1)];exact m2
    ·rw[aw]at F;cases F
  ·rw[aw];simp only[Bool.false_eq_true,if_false];exact still (by rw[R];rfl) undef (by rw[R];exact .tuple [] [] .nil)
def P2{id:Nat}{a:Act}{w:World}(hm:P.follows .mixedOrders=X)(v:jn E P call)(c:Ctx P call ops ord ev H0 T cD bR)(u:Rel ρ0 H0 w)(n:h3 E ρ0 H0.next bR.next)(y:dN ρ0 ev a)
  (s:∀ρ a m,dN ρ cD a->Step ρ0 H0 w ρ bR m->Q .normal a m):(Code.region id ops X).wp P Q a w:=by
 have k:∀j,c6 (Array.replicate ops.size U) j=false:=λj=>by
  unfold c6;rw[Array.getD_eq_getD_getElem?];by_cases h:j<ops.size<;>simp[h]
 refine wp_region_any hm (c.any (ρ0:=ρ0) (w0:=w.drew) v n.le (λρ a m q e=>s ρ a m q ?_) _ _ _ _ ⟨by simp,λi o _ x=>absurd x (by rw[k];simp),ρ0,[],T,rfl,by simp,λt _ _=>k _,?_,ev,y,rfl,λd=> ?_⟩ ?_)
 ·exact⟨e.le,e.next,e.a1,e.rel,e.os,e.tape,e.output,e.size,e.frame,e.own,e.ro⟩
 ·have aI:eb (c6 (Array.replicate ops.size U)) T (cr [] H0)=λ_=>none:=by
   have:∀(T:List bN) (H:ad),eb (c6 (Array.replicate ops.size U)) T H=λ_=>none:=by
    intro T
    induction T with
    |nil=>intro H;rfl
    |cons t T p=>
     intro H
     funext l
     unfold eb;split
     ·rw[p,k];simp
     ·rw[p]
   exact this T _
  rw[aI];exact e0.start u.drew n.new
 ·rw[tH λt _ _=>k _]
 ·refine Nat.le_trans List.countP_le_length ?_;simp
end
def hK(P:Program)(call:az)(ops:Array Oper):List Oper->bb->ad->Option (bb×ad)
 |[],ae,H=>D (ae,H)
 |o::os,ae,H=>match hD P call ops o ae H with
  |none=>C
  |some k=>match ae.put o.dst k.val with
   |none=>C
   |some a_=>hK P call ops os a_ (k.heap H)
def HD(o:Oper):Bool:=match cls o.op with
 | .write=>X
 | .call=>X
 |_=>U
def need(m:Nat)(done:Nat):List Nat->List Nat
 |[]=>[]
 |j::a=>if m.testBit j&& !done.testBit j then j::need m done a else need m done a
def Fl(done:Nat):List Nat->Nat
 |[]=>done
 |j::a=>Fl (done|||2^j) a
def w8(ms all:List Nat):List (Nat×Oper)->Nat->List Nat
 |[],done=>need (2^all.length-1) done all
 |(i,o)::is,done=>if HD o&& !done.testBit i then
   (let a:=need (ms[i]?.getD 0) done all
    a++i::w8 ms all is (Fl done a|||2^i))
  else w8 ms all is done
def Hf:Nat->List Oper->List (Nat×Oper)
 |_,[]=>[]
 |i,o::os=>(i,o)::Hf (i+1) os
def order(ops:Array Oper):List Nat:=w8 (dF ops) (List.range ops.size) (Hf 0 ops.toList) 0
def fr(P:Program)(call:az)(ops:Array Oper)(draw:Bool)(ae:bb)(H:ad):Option (bb×ad):=
 match draw with
 |false=>hK P call ops ops.toList ae H
 |true=>match canRun P call ops (order ops) ae H with
  |none=>C
  |some (T,a_,H')=>match iY (dF ops) T []with
   |false=>C
   |true=>match lf P (dF ops) (tied ops (dF ops) (order ops)) T H T with
    |false=>C
    |true=>D (a_,H')
def kc:Code->Bool
 | .region _ ops X=>pS ops (dF ops) (order ops)
 | .seq a b=>kc a&&kc b
 | .cond _ a b=>kc a&&kc b
 | .block _ b=>kc b
 | .loop b=>kc b
 |_=>X
inductive aA where
 |normal
 |exit (id:Nat)
 |ret
def aA.vG:aA->Exit
 | .normal=> .normal
 | .exit id=> .exit id
 | .ret=> .ret
abbrev sz:=Array Oper->Bool->bb->ad->Option (bb×ad)
def iter(f:bb->ad->Option (aA×bb×ad)):Nat->bb->ad->Option (aA×bb×ad)
 |0,_,_=>C
 |n+1,ae,H=>match f ae H with
  |some (.normal,a_,H')=>iter f n a_ H'
  |r=>r
def cH(hH:sz)(N:Nat):Code->bb->ad->Option (aA×bb×ad)
 | .skip,ae,H=>D (.normal,ae,H)
 | .region _ ops d,ae,H=>match hH ops d ae H with
  |some (a_,H')=>D (.normal,a_,H')
  |none=>C
 | .seq a b,ae,H=>match cH hH N a ae H with
  |some (.normal,a_,H')=>cH hH N b a_ H'
  |r=>r
 | .cond c a b,ae,H=>match ca ae c with
  |some (.bool X)=>cH hH N a ae H
  |some (.bool U)=>cH hH N b ae H
  |_=>C
 | .block id b,ae,H=>match cH hH N b ae H with
  |some (.exit e,a_,H')=>if e=id then D (.normal,a_,H')else D (.exit e,a_,H')
  |r=>r
 | .loop b,ae,H=>iter (λae H=>cH hH N b ae H) N ae H
 | .exit id,ae,H=>D (.exit id,ae,H)
 | .ret,ae,H=>D (.ret,ae,H)
 | .label _,ae,H=>D (.normal,ae,H)
 |_,_,_=>C
def bb.rG(t:bp aa):Nat->List aa->bp aa
 |_,[]=>t
 |i,v::a=>bb.rG (bp.put v (i+1) t i) (i+1) a
def bb.enter(n:Nat)(args:List aa):bb:=⟨bb.rG .leaf 0 args,args.length+(n-args.length)⟩
def pe(P:Program)(ae:bb)(H:ad):ResultVar->Option aa
 | .tmp t=>D (ae.get t)
 | .cell a t=>ak P H t (ae.get a)
def hA(P:Program)(ae:bb)(H:ad):List ResultVar->Option (List aa)
 |[]=>D []
 |r::rs=>match pe P ae H r,hA P ae H rs with
  |some v,D a=>D (v::a)
  |_,_=>C
def mh:List aa->aa
 |[v]=>v
 |a=> .tuple a
def cc(P:Program)(ay:az)(N:Nat):Nat->az
 |0,_,_,_=>C
 |n+1,f,args,H=>match ay f args H with
 |some r=>D r
 |none=>match P.funcs[f]? with
  |none=>C
  |some fn=>match fn.body with
   |none=>C
   |some c=>match cH (fr P (cc P ay N n)) N c (bb.enter fn.ntmps args) H with
    |none=>C
    |some (ex,ae,H')=>match ex with
     | .exit _=>C
     |_=>match hA P ae H' fn.results.toList with
      |none=>C
      |some a=>D (mh a,H')
section
variable {E:Env}{P:Program}{ay:az}{call:az}{hH:sz}{N:Nat}
def xF{ops:Array Oper}:∀{os:List Oper} {ae a_:bb} {H H':ad},hK P call ops os ae H=D (a_,H')->H.next<=H'.next
 |[],ae,a_,H,H',h=>by
  simp only[hK,aV,b4]at h;obtain⟨rfl,rfl⟩:=h;exact bj _
 |o::os,ae,a_,H,H',h=>by
  simp only[hK]at h;split at h
  ·cases h
  ·rename_i k a;split at h
   ·cases h
   ·exact Nat.le_trans (wm a) (xF h)
def u2(hH:sz):Prop:=∀ops d ae H a_ H',hH ops d ae H=D (a_,H')->H.next<=H'.next
def EG:u2 (fr P call):=by
 intro ops d ae H a_ H' h;unfold fr at h;split at h
 ·exact xF h
 ·split at h
  ·cases h
  ·rename_i T c H1 a;split at h
   ·cases h
   ·split at h
    ·cases h
    ·simp only[aV,b4]at h;obtain⟨rfl,rfl⟩:=h;rw[(kF a).2.1];exact(qV a).le
def s6{f:bb->ad->Option (aA×bb×ad)}(a:∀ae H ex a_ H',f ae H=D (ex,a_,H')->H.next<=H'.next):∀{n:Nat} {ae:bb} {H:ad} {ex:aA} {a_:bb} {H':ad},
  iter f n ae H=D (ex,a_,H')->H.next<=H'.next
 |0,_,_,_,_,_,h=>by cases h
 |n+1,ae,H,ex,a_,H',h=>by
  simp only[iter]at h;split at h
  ·rename_i d H1 c;exact Nat.le_trans (a _ _ _ _ _ c) (s6 a h)
  ·exact a _ _ _ _ _ h
def z6(n:u2 hH):∀(c:Code) {ae:bb} {H:ad} {ex:aA} {a_:bb} {H':ad},cH hH N c ae H=D (ex,a_,H')->H.next<=H'.next:=by
 intro c
 induction c with
 |skip=>intro ae H ex a_ H' h;simp only[cH,aV,b4]at h;obtain⟨_,_,rfl⟩:=h;exact bj _
 |region id ops d=>
  intro ae H ex a_ H' h;simp only[cH]at h;split at h
  ·rename_i m H1 e;simp only[aV,b4]at h;obtain⟨_,_,rfl⟩:=h;exact n _ _ _ _ _ _ e
  ·cases h
 |seq a b j k=>
  intro ae H ex a_ H' h;simp only[cH]at h;split at h
  ·rename_i m H1 e;exact Nat.le_trans (j e) (k h)
  ·exact j h
 |cond c a b j k=>
  intro ae H ex a_ H' h;simp only[cH]at h;split at h
  ·exact j h
  ·exact k h
  ·cases h
 |block id b i=>
  intro ae H ex a_ H' h;simp only[cH]at h;split at h
  ·rename_i o m H1 e;have:=i e;split at h<;>(simp only[aV,b4]at h;obtain⟨_,_,rfl⟩:=h;exact this)
  ·exact i h
 |loop b i=>
  intro ae H ex a_ H' h;simp only[cH]at h;exact s6 (λ_ _ _ _ _ h=>i h) h
 |exit id=>intro ae H ex a_ H' h;simp only[cH,aV,b4]at h;obtain⟨_,_,rfl⟩:=h;exact bj _
 |ret=>intro ae H ex a_ H' h;simp only[cH,aV,b4]at h;obtain⟨_,_,rfl⟩:=h;exact bj _
 |label l=>intro ae H ex a_ H' h;simp only[cH,aV,b4]at h;obtain⟨_,_,rfl⟩:=h;exact bj _
 |goto l=>intro ae H ex a_ H' h;cases h
 |scope b i=>intro ae H ex a_ H' h;cases h
 |rangeFunc f p a b j k=>intro ae H ex a_ H' h;cases h
 |refuse y=>intro ae H ex a_ H' h;cases h
def Fk(u:jn E P call){ops:Array Oper}{Q:Exit->Act->World->Prop}:∀{os:List Oper} {ae a_:bb} {H H':ad} {ρ:Env} {w:World} {a:Act},hK P call ops os ae H=D (a_,H')->
  Rel ρ H w->h3 E ρ H.next H'.next->dN ρ ae a->(∀d a' c,dN d a_ a'->Step ρ H w d H' c->Q .normal a' c)->wpList P ops Q os a w
 |[],ae,a_,H,H',ρ,w,a,h,e,_,i,q=>by
  simp only[hK,aV,b4]at h;obtain⟨rfl,rfl⟩:=h;exact q ρ a w i (.refl e)
 |o::os,ae,a_,H,H',ρ,w,a,h,e,s,i,q=>by
  simp only[hK]at h;split at h
  ·cases h
  ·rename_i k z;split at h
   ·cases h
   ·rename_i ag B;have A:=xF h;have ah:=wm z;have go:∀x c d,bg d k.val x->Step ρ H w d (k.heap H) c->wpList P ops Q os (a.put o.dst x) c:=λx c d m ax=>
     Fk u h ax.rel (s.after ax) ((i.mono ax.le).put B m) λaa a2 W n p=>q aa a2 W n (ax.trans p)
    unfold wpList;rw[yZ i o];rcases pA z with⟨hw,j⟩|⟨hw,rfl⟩
    ·rw[hw];simp only[if_true];refine .inl ?_;cases k with
     |skip=>exact j.elim
     |pure v=>exact Ej j i λx m=>go x w ρ m (.refl e)
     |read v=>exact ED e j i λx m=>go x w ρ m (.refl e)
     |new v b=>
      have y:ρ H.next=none:=s.new _ (bj _) (by simp only[K.heap,ad.bX]at A;omega)
      refine DH j i y λx c d loc a6 M N O R S fH T V F G L=>go x c d a6 ?_
      have m0:e0 ρ H w (H.next+1) (λ_=>C) ρ H w:=e0.start e λl n p=>by
       have:l=H.next:=af
       rw[this];exact y
      have m1:=m0.early (bj _) af rfl M N O R S fH T V F G L;exact(m1.GK (b:=b) (by simp)).done rfl
     |ea v ab=>
      exact zU u e (s.left A) j i λx c d n p=>go x c d n p
    ·rw[hw];simp only[Bool.false_eq_true,if_false];exact go undef w ρ (.tuple [] [] .nil) (.refl e)
def yv(E:Env)(P:Program)(hH:sz):Prop:=∀(id:Nat) (ops:Array Oper) (d:Bool) (ae:bb) (H:ad) (a_:bb) (H':ad),hH ops d ae H=D (a_,H')->(d=X->pS ops (dF ops) (order ops)=X)->∀(ρ:Env) (w:World) (a:Act) (Q:Exit->Act->World->Prop),Rel ρ H w->h3 E ρ H.next H'.next->dN ρ ae a->(∀e a' c,dN e a_ a'->Step ρ H w e H' c->Q .normal a' c)->(Code.region id ops d).wp P Q a w
def EH(hm:P.follows .mixedOrders=X)(i:jn E P call):yv E P (fr P call):=by
 intro id ops d ae H a_ H' h m ρ w a Q e j k c;unfold fr at h;split at h
 ·exact wp_region_list (Fk i h e j k c)
 ·split at h
  ·cases h
  ·rename_i T p H1 l;split at h
   ·cases h
   ·rename_i n;split at h
    ·cases h
    ·rename_i o;simp only[aV,b4]at h;obtain⟨rfl,rfl⟩:=h;exact P2 hm i ⟨l,m rfl,n,o⟩ e j k c
def P3{c:Code}{Q:Exit->Act->World->Prop}(p:Nat->Act->World->Prop)(round:∀n a w,p n a w->∃m,n=m+1/\c.wp P (Exit.then (p m) Q) a w){n:Nat}{a:Act}{w:World}(z:p n a w):(Code.loop c).wp P Q a w:=by
 intro b k cs;have key:∀n a w,p n a w->∃e a' q,Q e a' q/\Arrives P (lone (b.at a (.code c:: .inLoop c::k)) cs w) b k cs e a' q:=by
  intro n
  induction n with
  |zero=>intro a w h;obtain⟨m,hm,_⟩:=round 0 a w h;omega
  |succ n A=>
   intro a w h;obtain⟨m,hm,hw⟩:=round _ a w h;obtain rfl:m=n:=af;obtain⟨e,j,o,i,d⟩:=hw b (.inLoop c::k) cs;cases e with
   |normal=>
    obtain⟨u,s,B,y,v⟩:=A j o i;exact⟨u,s,B,y,.of_steps (Steps.trans d (.one step_inLoop)) v⟩
   |exit id=>exact⟨_,j,o,i,.pass (x:= .inLoop c) rfl (λ_ _=> .inl (by simp)) d⟩
   |goto l=>exact⟨_,j,o,i,.pass (x:= .inLoop c) rfl (λ_ _=> .inl (by simp)) d⟩
   |ret=>exact⟨_,j,o,i,.pass (x:= .inLoop c) rfl (λ_ _=> .inl (by simp)) d⟩
   |panic E=>exact⟨_,j,o,i,.pass (x:= .inLoop c) rfl (λ_ _=> .inl (by simp)) d⟩
   |outgrown=>exact⟨_,j,o,i,.pass (x:= .inLoop c) rfl (λ_ _=> .inl (by simp)) d⟩
 obtain⟨e,a',q,i,d⟩:=key _ a w z;exact⟨e,a',q,i,.of_steps (.one step_loop) d⟩
def uT(E:Env)(P:Program)(c:Code)(f:bb->ad->Option (aA×bb×ad)):Prop:=∀(ae:bb) (H:ad) (ex:aA) (a_:bb) (H':ad),f ae H=D (ex,a_,H')->∀(ρ:Env) (w:World) (a:Act) (Q:Exit->Act->World->Prop),Rel ρ H w->h3 E ρ H.next H'.next->dN ρ ae a->(∀e a' d,dN e a_ a'->Step ρ H w e H' d->Q ex.vG a' d)->c.wp P Q a w
def Kf{c:Code}{f:bb->ad->Option (aA×bb×ad)}(l:uT E P c f)(o:∀ae H ex a_ H',f ae H=D (ex,a_,H')->H.next<=H'.next)(n:Nat):uT E P (.loop c) (iter f n):=by
 intro ae H ex a_ H' h ρ w a Q y m B x;refine P3 (n:=n) (λn aT i=>∃j H1 e,iter f n j H1=D (ex,a_,H')/\Step ρ H w e H1 i/\dN e j aT) ?_ ⟨ae,H,ρ,h,.refl y,B⟩;rintro n aT i ⟨j,H1,e,d,ax,p⟩;cases n with
 |zero=>cases d
 |succ n=>
  refine⟨n,rfl,?_⟩;have hle:=s6 o d;simp only[iter]at d;split at d
  ·rename_i u s v;have z:=s6 o d;refine l _ _ _ _ _ v e i aT _ ax.rel (h3.left (h3.after m ax) z) p λk a2 q g1 g2=> ?_
   exact⟨u,s,k,d,ax.trans g2,g1⟩
  ·rename_i A;refine l _ _ _ _ _ d e i aT _ ax.rel (h3.after m ax) p λk a2 q g1 g2=> ?_
   have:=x k a2 q g1 (ax.trans g2);cases ex with
   |normal=>exact absurd d (A _ _)
   |exit id=>exact this
   |ret=>exact this
def z8(B:u2 hH)(G:yv E P hH):∀(c:Code),kc c=X->uT E P c (cH hH N c):=by
 intro c
 induction c with
 |skip=>
  intro _ ae H ex a_ H' h ρ w a Q j k e i;simp only[cH,aV,b4]at h;obtain⟨rfl,rfl,rfl⟩:=h;exact wp_skip (i ρ a w e (.refl j))
 |region id ops d=>
  intro aI ae H ex a_ H' h ρ w a Q j k e i;simp only[cH]at h;split at h
  ·rename_i A H1 m;simp only[aV,b4]at h;obtain⟨rfl,rfl,rfl⟩:=h;exact G id ops d ae H _ _ m (λF=>by subst F;exact aI) ρ w a Q j k e i
  ·cases h
 |seq x y q s=>
  intro aI ae H ex a_ H' h ρ w a Q j k e i;simp only[kc,Bool.and_eq_true]at aI;simp only[cH]at h;refine wp_seq ?_;split at h
  ·rename_i A H1 m;have hle:=z6 B y h;refine q aI.1 _ _ _ _ _ m ρ w a _ j (k.left hle) e λo aT n g1 g2=> ?_
   exact s aI.2 _ _ _ _ _ h o n aT Q g2.rel (k.after g2) g1 λM a2 L g3 g4=>i M a2 L g3 (g2.trans g4)
  ·rename_i v;refine q aI.1 _ _ _ _ _ h ρ w a _ j k e λo aT n g1 g2=> ?_
   have:=i o aT n g1 g2;cases ex with
   |normal=>exact absurd h (v _ _)
   |exit id=>exact this
   |ret=>exact this
 |cond c x y q s=>
  intro aI ae H ex a_ H' h ρ w a Q j k e i;simp only[kc,Bool.and_eq_true]at aI;simp only[cH]at h;split at h
  ·rename_i u;have m:=dq e u;refine wp_cond_true (by generalize a.eval c=z at m;cases m;rfl) ?_;exact q aI.1 _ _ _ _ _ h ρ w a Q j k e i
  ·rename_i u;have m:=dq e u;refine wp_cond_false (by generalize a.eval c=z at m;cases m;rfl) ?_;exact s aI.2 _ _ _ _ _ h ρ w a Q j k e i
  ·cases h
 |block id b p=>
  intro aI ae H ex a_ H' h ρ w a Q j k e i;simp only[cH]at h;refine wp_block ?_;split at h
  ·rename_i K A H1 m;split at h
   ·rename_i hid;simp only[aV,b4]at h;obtain⟨rfl,rfl,rfl⟩:=h;refine p aI _ _ _ _ _ m ρ w a _ j k e λo aT n g1 g2=> ?_
    have:=i o aT n g1 g2;simp only[aA.vG,Exit.inBlock,hid,if_true];exact this
   ·rename_i hid;simp only[aV,b4]at h;obtain⟨rfl,rfl,rfl⟩:=h;refine p aI _ _ _ _ _ m ρ w a _ j k e λo aT n g1 g2=> ?_
    have:=i o aT n g1 g2;simp only[aA.vG,Exit.inBlock,hid,if_false];exact this
  ·rename_i v;refine p aI _ _ _ _ _ h ρ w a _ j k e λo aT n g1 g2=> ?_
   have:=i o aT n g1 g2;cases ex with
   |normal=>exact this
   |exit K=>exact absurd h (v _ _ _)
   |ret=>exact this
 |loop b p=>
  intro aI ae H ex a_ H' h ρ w a Q j k e i;simp only[cH]at h;exact Kf (p aI) (λ_ _ _ _ _ h=>z6 B b h) N ae H ex a_ H' h ρ w a Q j k e i
 |exit id=>
  intro _ ae H ex a_ H' h ρ w a Q j k e i;simp only[cH,aV,b4]at h;obtain⟨rfl,rfl,rfl⟩:=h;exact wp_exit (i ρ a w e (.refl j))
 |ret=>
  intro _ ae H ex a_ H' h ρ w a Q j k e i;simp only[cH,aV,b4]at h;obtain⟨rfl,rfl,rfl⟩:=h;exact wp_ret (i ρ a w e (.refl j))
 |label l=>
  intro _ ae H ex a_ H' h ρ w a Q j k e i;simp only[cH,aV,b4]at h;obtain⟨rfl,rfl,rfl⟩:=h;exact wp_label (i ρ a w e (.refl j))
 |goto l=>intro _ ae H ex a_ H' h;cases h
 |scope b p=>intro _ ae H ex a_ H' h;cases h
 |rangeFunc f O a b q s=>intro _ ae H ex a_ H' h;cases h
 |refuse y=>intro _ ae H ex a_ H' h;cases h
def w1:∀(args:List aa) (t:bp aa) (i d:Nat),(bb.rG t i args).get d=if i<=d/\d<i+args.length then args[d-i]? else t.get d
 |[],t,i,d=>by simp only[bb.rG,List.length_nil];rw[if_neg af]
 |v::e,t,i,d=>by
  simp only[bb.rG];rw[w1 e];by_cases a:i+1<=d/\d<i+1+e.length
  ·rw[if_pos a,if_pos (by simp;omega),show d-i=(d-(i+1))+1 by omega];simp
  ·rw[if_neg a];by_cases c:d=i
   ·subst c;rw[bp.rj _ _ _ _ af,if_pos (by simp)];simp
   ·rw[bp.ri _ _ _ _ _ (Ne.symm c),if_neg (by simp;omega)]
def zW{ρ:Env}{args:List aa}{xs:List Value}(h:bw ρ args xs)(n:Nat):dN ρ (bb.enter n args) {tmps:=xs.toArray++Array.replicate (n-xs.toArray.size) undef,defers:=[]}:=by
 have i:=h.length;refine⟨by simp[bb.enter,i],λd=> ?_,rfl⟩;unfold bb.get bb.enter;simp only
 rw[w1];rw[Array.getD_eq_getD_getElem?];by_cases e:d<args.length
 ·rw[if_pos af];obtain⟨v,c⟩:∃v,args[d]? =D v:=⟨args[d],by simp[e]⟩;obtain⟨x,k,j⟩:=h.get d v c;have a:(xs.toArray++Array.replicate (n-xs.toArray.size) undef)[d]? =D x:=by
   rw[Array.getElem?_append_left (by simp;omega)];simpa using k
  rw[a];simp only[Nat.sub_zero,c,Option.getD_some];exact j
 ·rw[if_neg af];have a:((xs.toArray++Array.replicate (n-xs.toArray.size) undef)[d]?).getD undef=undef:=by
   rw[Array.getElem?_append_right (by simp;omega)];simp only[Array.getElem?_replicate];split<;>rfl
  rw[a,bp.re];exact .tuple [] [] .nil
def rX(tmps:Array Value):ResultVar->Sem Value
 | .tmp t=>pure (tmps.getD t undef)
 | .cell b t=>do loadVar t (<-asAddr (tmps.getD b undef))
def Ij{ρ:Env}{H:ad}{w:World}{ae:bb}{a:Act}(j:Rel ρ H w)(e:dN ρ ae a){r:ResultVar}{v:aa}(h:pe P ae H r=D v):
  ∃x,(rX a.tmps r).run P w= .ok x w/\bg ρ v x:=by
 cases r with
 |tmp t=>
  simp only[pe,aV]at h;subst h;exact⟨_,rfl,e.get t⟩
 |cell b t=>
  simp only[pe]at h;obtain⟨x,an,aE⟩:=ve j h (e.get b);refine⟨x,?_,aE⟩;have d:=e.get b;simp only[rX];generalize a.tmps.getD b undef=z at d an ⊢;have aI:∃l i c,ae.get b= .ptr l i c:=by
   generalize ae.get b=u at h;unfold ak at h;cases u<;>first|exact⟨_,_,_,rfl⟩|(exfalso;simp at h)
  obtain⟨l,i,c,aI⟩:=aI;rw[aI]at d;cases d;simpa [Instr.loadAt,Instr.sureAddr,asAddr]using an
def yQ{ρ:Env}{H:ad}{w:World}{ae:bb}{a:Act}(d:Rel ρ H w)(e:dN ρ ae a):∀{rs:List ResultVar} {c:List aa},hA P ae H rs=D c->
  ∃xs:List Value,(rs.mapM (rX a.tmps)).run P w= .ok xs w/\bw ρ c xs
 |[],c,h=>by simp only[hA,aV]at h;subst h;exact⟨[],by simp[Sem.run_pure],.nil⟩
 |r::rs,c,h=>by
  simp only[hA]at h;split at h
  ·rename_i v k i j;simp only[aV]at h;subst h;obtain⟨x,an,aE⟩:=Ij d e i;obtain⟨xs,bn,b8⟩:=yQ d e j;refine⟨x::xs,?_,.cons _ _ _ _ aE b8⟩;rw[List.mapM_cons];simp only[Sem.run_bind,Result.andThen_ok,Sem.run_pure,an,bn]
  ·cases h
def LP(fn:Func)(tmps:Array Value):results fn tmps=(do
  let a<-fn.results.mapM (rX tmps)
  pure (if h:a.size=1 then a[0]else .tuple a)):=by
 unfold results
 congr 1
def EM{ρ:Env}{H:ad}{w:World}{ae:bb}{a:Act}(k:Rel ρ H w)(l:dN ρ ae a){fn:Func}{d:List aa}(h:hA P ae H fn.results.toList=D d):
  ∃x,(results fn a.tmps).run P w= .ok x w/\bg ρ (mh d) x:=by
 obtain⟨xs,an,aE⟩:=yQ k l h;have hm:(fn.results.mapM (rX a.tmps)).run P w= .ok xs.toArray w:=by
  rw[Array.mapM_eq_mapM_toList];simp only[Sem.run_map,an,Result.andThen_ok]
 refine⟨if h:xs.toArray.size=1 then xs.toArray[0]else .tuple xs.toArray,?_,?_⟩
 ·rw[LP];simp only[Sem.run_bind,hm,Result.andThen_ok,Sem.run_pure]
 ·cases aE with
  |nil=>exact .tuple [] [] .nil
  |cons v x n q c e=>
   cases e with
   |nil=>exact c
   |cons m p o s i j=>
    simp only[mh];rw[dif_neg (by simp)];exact .tuple _ _ (.cons _ _ _ _ c (.cons _ _ _ _ i j))
structure nz(P:Program):Prop where
 mixed:P.follows .mixedOrders=true
 names:∀fn∈P.funcs,(fn.name== "runtime.NumGoroutine")=false
 Eh:∀(f:Nat) (fn:Func) (c:Code),P.funcs[f]? =some fn->fn.body=some c->kc c=true
def z_(a:nz P)(k:jn E P ay):∀n,jn E P (cc P ay N n)
 |0=>λg args H v H' h=>by cases h
 |n+1=>by
  intro g args H v H' h ρ w xs l o m z next p
  simp only[cc]at h;split at h
  ·rename_i r F;cases h;exact k g args H v H' F ρ w xs l o m z next p
  split at h
  ·cases h
  ·rename_i fn d;split at h
   ·cases h
   ·rename_i c i;split at h
    ·cases h
    ·rename_i ex ae H1 u;have L:=z_ a k n;have s:=z8 (N:=N) EG (EH a.mixed L) c (a.Eh _ _ _ d i);have A:(fn.name== "runtime.NumGoroutine")=false:=a.names fn (Array.mem_of_getElem? d);have G:(callFunc g xs.toArray).run P w= .ok (.enter g xs.toArray) w:=by
      unfold callFunc;simp[d,i];intro y;simp[y]at A
     unfold me;rw[G];simp only
     split at h
     ·cases h
     ·rename_i B;split at h
      ·cases h
      ·rename_i Q K;simp only[aV,b4]at h;obtain⟨rfl,rfl⟩:=h;refine calls_of_wp d i (s _ _ _ _ _ u ρ w _ _ l o (zW m fn.ntmps) λO a' M e j=> ?_);obtain⟨x,an,aE⟩:=EM j.rel e K;have q:=p x M O aE j;cases ex with
       |normal=>exact⟨e.none,x,an,q⟩
       |ret=>exact⟨e.none,x,an,q⟩
       |exit id=>exact absurd rfl (B id)
end
section
variable {E:Env}{P:Program}{ay:az}
def ny(P:Program)(ay:az)(f:Nat)(args:List aa)(H:ad)(r:aa×ad):Prop:=∃k,∀N,k<=N->∀n,k<=n->cc P ay N n f args H=D r
def ny.uniq{f:Nat}{args:List aa}{H:ad}{r s:aa×ad}(h:ny P ay f args H r)(aZ:ny P ay f args H s):r=s:=by
 obtain⟨k,d⟩:=h;obtain⟨j,c⟩:=aZ;have a:=d (max k j) (Nat.le_max_left ..) (max k j) (Nat.le_max_left ..);rw[c (max k j) (Nat.le_max_right ..) (max k j) (Nat.le_max_right ..)]at a;exact(Option.some.inj a).symm
open Classical in
noncomputable def aD(P:Program)(ay:az):az:=λf args H=>if h:∃r,ny P ay f args H r then D h.choose else C
def Ab{f:Nat}{args:List aa}{H:ad}{r:aa×ad}(h:aD P ay f args H=D r):ny P ay f args H r:=by
 unfold aD at h;split at h
 ·rename_i a;rw[<-Option.some.inj h];exact a.choose_spec
 ·cases h
def C1{f:Nat}{args:List aa}{H:ad}{r:aa×ad}(h:ny P ay f args H r):aD P ay f args H=D r:=by
 unfold aD;have a:∃r,ny P ay f args H r:=⟨r,h⟩;rw[dif_pos a];exact congrArg D (a.choose_spec.uniq h)
def I8(c:nz P)(a:jn E P ay):jn E P (aD P ay):=by
 intro g args H v H' h;obtain⟨k,d⟩:=Ab h;exact z_ c a k g args H v H' (d k (bj _) k (bj _))
def Pe{o:Op}{ae:bb}{H:ad}{x:K}(h:step1 P (aD P ay) o ae H=D x):∃k,∀N,k<=N->∀n,k<=n->step1 P (cc P ay N n) o ae H=D x:=by
 unfold step1 at h;unfold step1;split at h
 ·exact⟨0,λ_ _ _ _=>h⟩
 ·exact⟨0,λ_ _ _ _=>h⟩
 ·exact⟨0,λ_ _ _ _=>h⟩
 ·exact⟨0,λ_ _ _ _=>h⟩
 ·exact⟨0,λ_ _ _ _=>h⟩
 ·split at h
  ·split at h
   ·rename_i g j d;cases a:aD P ay g j H with
    |none=>rw[a]at h;cases h
    |some r=>
     obtain⟨k,e⟩:=Ab a;refine⟨k,λN c n i=> ?_⟩;rw[a]at h;simp only[d,e N c n i];exact h
   ·cases h
  ·cases h
def Cy{ops:Array Oper}{o:Oper}{ae:bb}{H:ad}{x:K}(h:hD P (aD P ay) ops o ae H=D x):∃k,∀N,k<=N->∀n,k<=n->hD P (cc P ay N n) ops o ae H=D x:=by
 unfold hD at h;unfold hD;split at h
 ·rename_i hw;obtain⟨k,c⟩:=Pe h;exact⟨k,λN a n d=>c N a n d⟩
 ·exact⟨0,λ_ _ _ _=>h⟩
def Fj{ops:Array Oper}:∀{os:List Oper} {ae:bb} {H:ad} {x:bb×ad},hK P (aD P ay) ops os ae H=D x->∃k,∀N,k<=N->∀n,k<=n->hK P (cc P ay N n) ops os ae H=D x
 |[],ae,H,x,h=>⟨0,λ_ _ _ _=>h⟩
 |o::os,ae,H,x,h=>by
  simp only[hK]at h;split at h
  ·cases h
  ·rename_i y e;split at h
   ·cases h
   ·rename_i a_ a;obtain⟨k,d⟩:=Cy e;obtain⟨j,c⟩:=Fj h;refine⟨max k j,λN i n l=> ?_⟩;simp only[hK,d N af n af,a,c N af n af]
def zH{ops:Array Oper}:∀{is:List Nat} {ae:bb} {H:ad} {x:List bN×bb×ad},canRun P (aD P ay) ops is ae H=D x->∃k,∀N,k<=N->∀n,k<=n->canRun P (cc P ay N n) ops is ae H=D x
 |[],ae,H,x,h=>⟨0,λ_ _ _ _=>h⟩
 |i::is,ae,H,x,h=>by
  simp only[canRun]at h;split at h
  ·cases h
  ·rename_i o l;split at h
   ·cases h
   ·rename_i y m;split at h
    ·cases h
    ·rename_i a_ a;split at h
     ·cases h
     ·rename_i T cD bR c;obtain⟨k,e⟩:=Cy m;obtain⟨j,d⟩:=zH c;refine⟨max k j,λN p n q=> ?_⟩;simp only[canRun,l,e N af n af,a,d N af n af];exact h
def LK{ops:Array Oper}{d:Bool}{ae:bb}{H:ad}{x:bb×ad}(h:fr P (aD P ay) ops d ae H=D x):∃k,∀N,k<=N->∀n,k<=n->fr P (cc P ay N n) ops d ae H=D x:=by
 unfold fr at h;unfold fr;split at h
 ·obtain⟨k,c⟩:=Fj h;exact⟨k,λN a n e=>c N a n e⟩
 ·split at h
  ·cases h
  ·rename_i T a_ H' i;obtain⟨k,c⟩:=zH i;refine⟨k,λN a n e=> ?_⟩;simp only[c N a n e];exact h
def Ct{f:bb->ad->Option (aA×bb×ad)}:∀{n m:Nat} {ae:bb} {H:ad} {x:aA×bb×ad},iter f n ae H=D x->n<=m->iter f m ae H=D x
 |0,_,_,_,_,h,_=>by cases h
 |n+1,0,_,_,_,_,hm=>af
 |n+1,m+1,ae,H,x,h,hm=>by
  simp only[iter]at h ⊢;split at h
  ·rename_i a_ H' he;exact Ct h af
  ·exact h
def Cs{f:bb->ad->Option (aA×bb×ad)}{g:Nat->Nat->bb->ad->Option (aA×bb×ad)}(a:∀ae H x,f ae H=D x->∃k,∀N,k<=N->∀n,k<=n->g N n ae H=D x):
  ∀{M:Nat} {ae:bb} {H:ad} {x:aA×bb×ad},iter f M ae H=D x->∃k,∀N,k<=N->∀n,k<=n->iter (g N n) M ae H=D x
 |0,_,_,_,h=>by cases h
 |M+1,ae,H,x,h=>by
  simp only[iter]at h;split at h
  ·rename_i a_ H' he;obtain⟨k,c⟩:=a _ _ _ he;obtain⟨j,i⟩:=Cs a h;refine⟨max k j,λN d n e=> ?_⟩;simp only[iter,c N af n af];exact i N af n af
  ·rename_i l;obtain⟨k,c⟩:=a _ _ _ h;refine⟨k,λN d n e=> ?_⟩;simp only[iter,c N d n e];split
   ·rename_i a_ H' he;cases he;exact absurd h (l _ _)
   ·rfl
def I6{M:Nat}:∀(c:Code) {ae:bb} {H:ad} {x:aA×bb×ad},cH (fr P (aD P ay)) M c ae H=D x->∃k,∀N,k<=N->∀n,k<=n->cH (fr P (cc P ay N n)) N c ae H=D x:=by
 intro c
 induction c with
 |skip=>intro ae H x h;exact⟨0,λ_ _ _ _=>h⟩
 |region id ops d=>
  intro ae H x h;simp only[cH]at h;split at h
  ·rename_i w H1 o;obtain⟨k,e⟩:=LK o;refine⟨k,λN i n m=> ?_⟩;simp only[cH,e N i n m];exact h
  ·cases h
 |seq a b q s=>
  intro ae H x h;simp only[cH]at h;split at h
  ·rename_i w H1 o;obtain⟨k,e⟩:=q o;obtain⟨j,z⟩:=s h;refine⟨max k j,λN i n m=> ?_⟩;simp only[cH,e N af n af,z N af n af]
  ·rename_i v;obtain⟨k,e⟩:=q h;refine⟨k,λN i n m=> ?_⟩;simp only[cH,e N i n m];split
   ·rename_i a_ H' he;cases he;exact absurd h (v _ _)
   ·rfl
 |cond c a b q s=>
  intro ae H x h;simp only[cH]at h;split at h
  ·rename_i u;obtain⟨k,e⟩:=q h;refine⟨k,λN i n m=> ?_⟩;simp only[cH,u,e N i n m]
  ·rename_i u;obtain⟨k,e⟩:=s h;refine⟨k,λN i n m=> ?_⟩;simp only[cH,u,e N i n m]
  ·cases h
 |block id b p=>
  intro ae H x h;simp only[cH]at h;split at h
  ·rename_i B w H1 o;obtain⟨k,e⟩:=p o;refine⟨k,λN i n m=> ?_⟩;simp only[cH,e N i n m];exact h
  ·rename_i v;obtain⟨k,e⟩:=p h;refine⟨k,λN i n m=> ?_⟩;simp only[cH,e N i n m];split
   ·rename_i B a_ H' he;cases he;exact absurd h (v _ _ _)
   ·rfl
 |loop b p=>
  intro ae H x h;simp only[cH]at h;obtain⟨k,e⟩:=Cs (g:=λN n=>cH (fr P (cc P ay N n)) N b) (λae H x A=>p A) h;refine⟨max k M,λN i n m=> ?_⟩;simp only[cH];exact Ct (e N af n af) af
 |exit id=>intro ae H x h;exact⟨0,λ_ _ _ _=>h⟩
 |ret=>intro ae H x h;exact⟨0,λ_ _ _ _=>h⟩
 |label l=>intro ae H x h;exact⟨0,λ_ _ _ _=>h⟩
 |goto l=>intro ae H x h;cases h
 |scope b p=>intro ae H x h;cases h
 |rangeFunc f E a b q s=>intro ae H x h;cases h
 |refuse y=>intro ae H x h;cases h
def Aa{f:Nat}{args:List aa}{H H':ad}{fn:Func}{c:Code}{M:Nat}{ex:aA}{ae:bb}{d:List aa}(e:ay f args H=C)(j:P.funcs[f]? =D fn)(i:fn.body=D c)
  (h:cH (fr P (aD P ay)) M c (bb.enter fn.ntmps args) H=D (ex,ae,H')) (hex:∀id,ex≠ .exit id) (a:hA P ae H' fn.results.toList=D d):aD P ay f args H=D (mh d,H'):=by
 obtain⟨k,l⟩:=I6 c h;refine C1 ⟨k+1,λN m n o=> ?_⟩;cases n with
 |zero=>omega
 |succ n=>
  simp only[cc,e,j,i,l N af n af];cases ex with
  |exit id=>exact absurd rfl (hex id)
  |normal=>simp only[a]
  |ret=>simp only[a]
def mr{f:Nat}{args:List aa}{H:ad}{r:aa×ad}(h:ay f args H=D r):aD P ay f args H=D r:=by
 refine C1 ⟨1,λN a n c=> ?_⟩;cases n with
 |zero=>omega
 |succ n=>simp only[cc,h]
end
abbrev O:=Option (aa×ad)
abbrev cD:=Nat->aa
def eA(ae:cD)(dst:Option Nat)(v:aa):cD:=match dst with
 |none=>ae
 |some d=>λe=>bif Nat.beq e d then v else ae e
def dn(ae:cD):Operand->Option aa
 | .tmp t=>D (ae t)
 | .const v=>rH v
 | .global _=>C
 | .func f=>D (.func (.func f) [] [])
def ly(ae:cD):List Operand->Option (List aa)
 |[]=>D []
 |x::xs=>(dn ae x).bind λv=>(ly ae xs).bind λa=>D (v::a)
def q9(ae:cD):List (Nat×Operand)->Option (List (Nat×aa))
 |[]=>D []
 |(i,x)::xs=>(dn ae x).bind λv=>(q9 ae xs).bind λa=>D ((i,v)::a)
def q_(ae:cD):Option Operand->Option (Option aa)
 |none=>D C
 |some x=>(dn ae x).bind λv=>D (D v)
def cu(c:aa)(a b:Option aa):Option aa:=match c with
 | .bool t=>bif t then a else b
 |_=>C
def sO(P:Program)(t:TypeId)(c:Bool)(a b:aa):Bool:=
 match a,b with
 | .nilIface,.nilIface=>c
 | .agg _,.agg _=> !P.eqGuardType P.depth t
 |_,_=>X
def aq(P:Program)(op:BinOp)(t:TypeId)(c:Bool)(x y:aa):Option aa:=
 match x,y with
 | .int k a,.int d b=>
  (match op with
  | .shl=>pv .shl k a b
  | .shr=>pv .shr k a b
  |op=>if k=d then hR op k a b else C)
 | .str a,.str b=>sh op a b
 |x,y=>
  (match op with
  | .eql=>if sO P t c x y then(jW P 10000 t x y).map .bool else C
  | .neq=>if sO P t c x y then(jW P 10000 t x y).map λb=> .bool (!b)else C
  |_=>C)
def I3(P:Program)(t:TypeId)(x y:Operand)(u v:aa):sO P t (isConst x||isConst y) u v=nN P t x y u v:=by
 unfold sO nN;cases u<;>cases v<;>rfl
def Jc(P:Program)(op:BinOp)(t:TypeId)(x y:Operand)(u v:aa):aq P op t (isConst x||isConst y) u v=qL P op t x y u v:=by
 unfold aq qL;simp only[I3];cases u<;>cases v<;>cases op<;>rfl
def sV(P:Program)(o:Op)(ae:cD):Option aa:=
 match o with
 | .move x=>dn ae x
 | .assign x=>dn ae x
 | .pick c a b=>(dn ae c).bind λu=>cu u (dn ae a) (dn ae b)
 | .build t n=>(q9 ae n.toList).bind (cy P t)
 | .nilCheck x=>(dn ae x).bind b6
 | .binOp op t x y _=>(dn ae x).bind λu=>(dn ae y).bind λv=>aq P op t (isConst x||isConst y) u v
 | .unOp op _ x=>(dn ae x).bind (fq op)
 | .convert s d x=>(dn ae x).bind (mg P s d)
 | .makeInterface t x=>(dn ae x).bind (vb P t)
 | .makeFunc fn f c=>(ly ae f.toList).bind λe=>(ly ae c.toList).bind λcs=>D (.func fn e cs)
 | .slice t x lo j k=>(dn ae x).bind λv=>(q_ ae lo).bind λl=>(q_ ae j).bind λh=>(q_ ae k).bind λm=>jX P t v l h m
 | .fieldAddr t x f=>(dn ae x).bind λv=>aH P t v f
 | .field t x f=>(dn ae x).bind λv=>cL P t v f
 | .indexAddr t x i=>(dn ae x).bind λu=>(dn ae i).bind λv=>cM P t u v
 | .index t x i=>(dn ae x).bind λu=>(dn ae i).bind λv=>eU P t u v
 | .extract x i=>(dn ae x).bind λv=>d_ v i
 | .typeAssert x _ t ok=>(dn ae x).bind (u6 P t ok)
 | .call c=>match c.callee with
  | .builtin b=>(ly ae c.args.toList).bind (b_ P .empty b c.argTypes.toList)
  |_=>C
 |_=>C
def pt(P:Program)(o:Op)(ae:cD)(H:ad):Option aa:=
 match o with
 | .load t x=>(dn ae x).bind (ak P H t)
 | .lookup t x k ok=>(dn ae x).bind λu=>(dn ae k).bind λv=>sE P H t u v ok
 | .convert s d x=>(dn ae x).bind (nA P H s d)
 | .call c=>match c.callee with
  | .builtin b=>(ly ae c.args.toList).bind (b_ P H b c.argTypes.toList)
  |_=>C
 |_=>C
def dO(l:Nat)(v:aa):Option (aa×bW):=bif v.cells.all aa.one then D (.ptr l 0 0,.row U v.cells.length [v.cells])else C
def pg(ot:Option TypeId)(l:Nat)(v:aa):Option (aa×bW):=bif v.cells.all aa.one then D (.ptr l 0 0,dG ot v.cells.length [v.cells])else C
def b5(P:Program)(l:Nat)(t:TypeId)(len:Nat)(parts:List (Nat×aa)):Option (aa×bW):=
 match P.underlying t with
 |some (.slice e)=>
  (match cB P e,eV P e with
  |some a,D z=>
   bif decide (len*a<=16777216/\z.cells.length=a/\z.cells.all aa.one=X)then
    (iV a (List.replicate len z.cells) parts).bind λels=>D (.aB l 0 len a (D len),.row U a els)
   else C
  |_,_=>C)
 |_=>C
def vP(P:Program)(o:Op)(ae:cD)(l:Nat):Option (aa×bW):=
 match o with
 | .alloc t=>(eV P t).bind (pg (pK P t) l)
 | .box t x=>(dn ae x).bind (pg (pK P t) l)
 | .buildSlice t n a=>(q9 ae a.toList).bind (b5 P l t n)
 | .makeMap _ C=>D (.map l,.map [])
 | .makeSlice t x c=>(dn ae x).bind λu=>(dn ae c).bind λv=>n3 (sF P ⟨.leaf,l⟩ t u v) l
 |_=>C
def vU(P:Program)(o:Op)(ae:cD)(H:ad):Option (aa×ad):=
 match o with
 | .store t x y=>(dn ae x).bind λu=>(dn ae y).bind λv=>(aU P H t u v).bind λH'=>D (.tuple [],H')
 | .mapUpdate t m k x=>(dn ae m).bind λu=>(dn ae k).bind λv=>(dn ae x).bind λz=>(pc P H t u v z).bind λH'=>D (.tuple [],H')
 | .insert t m k x=>(dn ae m).bind λu=>(dn ae k).bind λv=>(dn ae x).bind λz=>(pc P H t u v z).bind λH'=>D (.tuple [],H')
 | .call c=>match c.callee,c.args.toList with
  | .builtin .append,[s,x]=>(dn ae s).bind λu=>(dn ae x).bind λv=>c1 P H c.argTypes.toList u v
  | .builtin .clear,[x]=>(dn ae x).bind λu=>(sD P H c.argTypes.toList u).bind λH'=>D (.tuple [],H')
  |_,_=>C
 |_=>C
def zG(f:aa)(a:List aa):Option (Nat×List aa):=match f with
 | .func (.func g) first captured=>D (g,first++a++captured)
 |_=>C
def Dx(P:Program)(H:ad)(r:aa)(name:String)(a:List aa):Option (Nat×List aa):=(pd P H r name).bind λp=>D (p.1,p.2::a)
def vI(P:Program)(H:ad)(ae:cD)(c:Call):Option (Nat×List aa):=
 match c.callee with
 | .value f=>(dn ae f).bind λu=>(ly ae c.args.toList).bind λa=>zG u a
 | .invoke r name=>(dn ae r).bind λu=>(ly ae c.args.toList).bind λa=>Dx P H u name a
 |_=>C
def ha(a b:Option aa)(k:K->O):O:=match a with
 |some v=>k (.pure v)
 |none=>b.bind λv=>k (.read v)
def uQ(r:Option (aa×bW))(k:K->O):O:=match r with
 |some (v,b)=>k (.new v b)
 |none=>C
def eI(H:ad)(r:O)(k:K->O):O:=match r with
 |some (v,H')=>bif decide (H.next<=H'.next)then k (.ea v H')else C
 |none=>C
def sT(P:Program)(call:az)(o:Op)(ae:cD)(H:ad)(k:K->O):O:=
 match cls o with
 | .pure=>(sV P o ae).bind λv=>k (.pure v)
 | .read=>(pt P o ae H).bind λv=>k (.read v)
 | .both=>ha (sV P o ae) (pt P o ae H) k
 | .new=>uQ (vP P o ae H.next) k
 | .write=>eI H (vU P o ae H) k
 | .call=>match o with
  | .call c=>(vI P H ae c).bind λp=>eI H (call p.1 p.2 H) k
  |_=>C
def qA(b:aa)(want:Bool)(m:(K->O)->O)(k:K->O):O:=match b with
 | .bool t=>bif t==want then m k else k .skip
 |_=>k .skip
def sU(P:Program)(call:az)(ops:Array Oper)(o:Oper)(ae:cD)(H:ad)(k:K->O):O:=
 match o.guard with
 |none=>sT P call o.op ae H k
 |some (j,want)=>match ops[j]? with
  |some q=>(match q.dst with
   |some d=>qA (ae d) want (sT P call o.op ae H) k
   |none=>k .skip)
  |none=>k .skip
def uy(P:Program)(call:az)(ops:Array Oper):List Oper->cD->ad->(cD->ad->O)->O
 |[],ae,H,k=>k ae H
 |o::os,ae,H,k=>sU P call ops o ae H λx=>uy P call ops os (eA ae o.dst x.val) (x.heap H) k
structure jr where
 i:Nat
 k:K
 rd:ad->Option aa
def pj(ms:List Nat):List jr->List Nat->Bool
 |[],_=>X
 |t::ts,ids=>match t.k with
  | .ea _ _=>ids.all (λj=>di ms j t.i)&&pj ms ts (t.i::ids)
  | .new _ _=>pj ms ts (t.i::ids)
  |_=>pj ms ts ids
def bl(r:Option aa)(v:aa):Bool:=match r with
 |some u=>aa.beq u v
 |none=>U
def qy(ms:List Nat)(rd:ad->Bool)(i:Nat):List jr->ad->Bool
 |[],H=>rd H
 |t::ts,H=>bif t.k.fb then(di ms t.i i||rd H)&&(di ms i t.i||qy ms rd i ts (t.k.heap H))else qy ms rd i ts H
def ph(ms:List Nat)(i:Nat):List jr->Bool->Bool
 |[],_=>U
 |t::ts,s=>match t.k with
  | .new _ _=>(s&&di ms t.i i&&ts.all λu=>mB u.k)||ph ms i ts (s|| !di ms t.i i)
  | .ea _ _=>ph ms i ts (s|| !di ms t.i i)
  |_=>ph ms i ts s
def n1(ms:List Nat)(rd:ad->Bool)(i:Nat):List jr->ad->Bool->Bool
 |[],_,_=>U
 |t::ts,H,s=>match t.k with
  | .new _ b=>bif s&&di ms t.i i&&ts.all (λu=>mB u.k)then rd (H.push b).only||n1 ms rd i ts (H.push b) (s|| !di ms t.i i)else n1 ms rd i ts (H.push b) (s|| !di ms t.i i)
  | .ea _ H'=>n1 ms rd i ts H' (s|| !di ms t.i i)
  |_=>n1 ms rd i ts H s
def xE(ms:List Nat)(rd:ad->Bool)(i:Nat)(T:List jr)(H:ad):Bool:=bif ph ms i T U then qy ms rd i T H||n1 ms rd i T H U else qy ms rd i T H
def uN(ms:List Nat)(a:List Nat)(T:List jr)(H:ad):List jr->Bool
 |[]=>X
 |t::ts=>(match t.k with
  | .read v=>a.contains t.i||xE ms (λH=>bl (t.rd H) v) t.i T H
  |_=>X)&&uN ms a T H ts
def q1(ms:List Nat)(a:List Nat)(T:List jr)(H:ad):Bool:=pj ms T []&&uN ms a T H T
def qU(P:Program)(call:az)(ops:Array Oper):List Nat->cD->ad->(List jr->cD->ad->O)->O
 |[],ae,H,k=>k [] ae H
 |i::is,ae,H,k=>match ops[i]? with
  |none=>C
  |some o=>sU P call ops o ae H λx=>qU P call ops is (eA ae o.dst x.val) (x.heap H) λT a_ H'=>k (⟨i,x,pt P o.op ae⟩::T) a_ H'
def xX(ops:Array Oper):List Nat:=(order ops).filter (tied ops (dF ops) (order ops))
def quiet(ops:Array Oper):Bool:=ops.toList.all λo=> !nT o.op
def xm(P:Program)(call:az)(ops:Array Oper)(draw:Bool)(ae:cD)(H:ad)(k:cD->ad->O):O:=
 match draw with
 |false=>uy P call ops ops.toList ae H k
 |true=>bif quiet ops then qU P call ops (order ops) ae H λ_ a_ H'=>k a_ H' else
  qU P call ops (order ops) ae H λT a_ H'=>bif q1 (dF ops) (xX ops) T H then k a_ H' else C
def aX(c:Option aa)(a b:O):O:=match c with
 |some (.bool t)=>bif t then a else b
 |_=>C
abbrev ek:=cD->ad->O
def look(i:Nat):List (Nat×ek)->ek
 |[],_,_=>C
 |(j,k)::ks,ae,H=>bif Nat.beq i j then k ae H else look i ks ae H
def nU(b:ek->ek):Nat->ek
 |0,_,_=>C
 |n+1,ae,H=>b (λae H=>nU b n ae H) ae H
def br(P:Program)(call:az)(N:Nat):Code->ek->List (Nat×ek)->ek->ek
 | .skip,e,_,_,ae,H=>e ae H
 | .region _ ops d,e,_,_,ae,H=>xm P call ops d ae H e
 | .seq a b,e,ks,h,ae,H=>br P call N a (λae H=>br P call N b e ks h ae H) ks h ae H
 | .cond c a b,e,ks,h,ae,H=>aX (dn ae c) (br P call N a e ks h ae H) (br P call N b e ks h ae H)
 | .block id b,e,ks,h,ae,H=>br P call N b e ((id,e)::ks) h ae H
 | .loop b,_,ks,h,ae,H=>nU (λe ae H=>br P call N b e ks h ae H) N ae H
 | .exit id,_,ks,_,ae,H=>look id ks ae H
 | .ret,_,_,h,ae,H=>h ae H
 | .label _,e,_,_,ae,H=>e ae H
 |_,_,_,_,_,_=>C
def pW(P:Program)(H:ad)(ae:cD):List ResultVar->(List aa->O)->O
 |[],k=>k []
 | .tmp t::rs,k=>pW P H ae rs λc=>k (ae t::c)
 | .cell a t::rs,k=>(ak P H t (ae a)).bind λv=>pW P H ae rs λc=>k (v::c)
def lH(P:Program)(rs:List ResultVar):ek:=λae H=>pW P H ae rs λa=>D (mh a,H)
def lq:List aa->cD
 |[],_=> .tuple []
 |v::_,0=>v
 |_::a,n+1=>lq a n
section
variable {P:Program}{ay:az}{call:az}{ae a_:bb}{H:ad}
def kI(x:Operand):dn ae.get x=ca ae x:=by cases x<;>rfl
def ra:∀xs:List Operand,ly ae.get xs=hj ae xs
 |[]=>rfl
 |x::xs=>by
  simp only[ly,hj,kI,ra xs];cases ca ae x<;>cases hj ae xs<;>rfl
def vR:∀xs:List (Nat×Operand),q9 ae.get xs=iT ae xs
 |[]=>rfl
 |(i,x)::xs=>by
  simp only[q9,iT,kI,vR xs];cases ca ae x<;>cases iT ae xs<;>rfl
def JJ(x:Option Operand):q_ ae.get x=jY ae x:=by
 cases x with
 |none=>rfl
 |some x=>simp only[q_,jY,kI];cases ca ae x<;>rfl
def Cf(o:Op):sV P o ae.get=iU P o ae:=by
 cases o<;>simp only[sV,iU,kI,ra,vR,JJ,Jc]
 ·rename_i c a b;cases d:ca ae c with
  |none=>rfl
  |some v=>cases v<;>first|rfl|(rename_i t;cases t<;>rfl)
 ·rename_i c;cases c.callee<;>rfl
def vS(o:Op):pt P o ae.get H=hh P o ae H:=by
 cases o<;>simp only[pt,hh,kI,ra]
 ·rename_i c;cases c.callee<;>rfl
def wZ(v:aa)(l:Nat)(b:bW)(a:b.j7=X):n3 (D (v,ad.push ⟨.leaf,l⟩ b)) l=D (v,b):=by
 unfold n3;simp only[ad.bX,if_true];have:(ad.push ⟨.leaf,l⟩ b).get l=D b:=ad.bI ⟨.leaf,l⟩ b;rw[this];simp[a]
def KW(ot:Option TypeId)(esz:Nat)(els:List (List aa)):(dG ot esz els).j7=true:=by cases ot<;>rfl
def zx(ot:Option TypeId)(l:Nat)(v:aa):pg ot l v=n3 (o9 ot ⟨.leaf,l⟩ v) l:=by
 unfold pg o9;by_cases h:v.cells.all aa.one=X
 ·rw[h,if_pos rfl];exact(wZ _ _ _ (KW _ _ _)).symm
 ·rw[if_neg h];simp only[Bool.not_eq_true]at h;rw[h];rfl
def O8(l:Nat)(t:TypeId)(n:Nat)(a:List (Nat×aa)):b5 P l t n a=n3 (qM P ⟨.leaf,l⟩ t n a) l:=by
 unfold b5 qM;cases hu:P.underlying t with
 |none=>rfl
 |some d=>
  cases d<;>try rfl
  rename_i e;simp only
  cases ax:cB P e with
  |none=>rfl
  |some c=>
  cases i:eV P e with
  |none=>rfl
  |some z=>
   simp only
   by_cases h:n*c<=16777216/\z.cells.length=c/\z.cells.all aa.one=X
   ·rw[if_pos h,decide_eq_true h];simp only[aW];cases iV c (List.replicate n z.cells) a with
    |none=>rfl
    |some els=>exact(wZ _ _ _ rfl).symm
   ·rw[if_neg h,decide_eq_false h];rfl
def JC(o:Op)(l:Nat):vP P o ae.get l=jt P o ae l:=by
 unfold jt;cases o<;>simp only[vP,nC,kI,vR]<;>try rfl
 ·rename_i t;unfold sC;cases eV P t with
  |none=>rfl
  |some v=>exact zx _ l v
 ·rename_i t x;cases ca ae x with
  |none=>rfl
  |some v=>exact zx _ l v
 ·rename_i t n a;cases iT ae a.toList with
  |none=>rfl
  |some v=>exact O8 l t n v
 ·rename_i t r;cases r with
  |none=>exact(wZ _ _ _ rfl).symm
  |some r=>rfl
 ·rename_i t x c;cases ca ae x with
  |none=>rfl
  |some u=>cases ca ae c<;>rfl
def map_bind{α β:Type}(x:Option α)(f:α->β):x.bind (λa=>D (f a))=x.map f:=by cases x<;>rfl
def JL(o:Op):vU P o ae.get H=kC P o ae H:=by
 cases o<;>simp only[vU,kC,kI,map_bind]
 ·rename_i c;cases d:c.callee with
  |builtin b=>
   cases a:c.args.toList with
   |nil=>cases b<;>rfl
   |cons s r=>
    cases r with
    |nil=>cases b<;>rfl
    |cons x r=>cases r<;>cases b<;>rfl
  |value f=>rfl
  |invoke r m=>rfl
def Je(c:Call):vI P H ae.get c=lp P H ae c:=by
 unfold vI lp;cases h:c.callee with
 |value f=>
  simp only[kI,ra];cases ca ae f with
  |none=>rfl
  |some v=>
   cases d:hj ae c.args.toList with
   |none=>
    simp only[Option.bind_some,Option.bind_none];split<;>first|rfl|(simp_all;done)
   |some e=>
    simp only[Option.bind_some];unfold zG;split
    ·rename_i g first captured;rfl
    ·rename_i a;split
     ·rename_i g first captured he
      simp only[aV]at he;exact absurd he (a _ _ _)
     ·rfl
 |invoke r m=>
  simp only[kI,ra];cases ca ae r with
  |none=>rfl
  |some v=>
   simp only[Option.bind_some];cases d:hj ae c.args.toList with
   |none=>cases pd P H v m<;>rfl
   |some e=>
    simp only[Option.bind_some,Dx];cases pd P H v m<;>rfl
 |builtin b=>rfl
def Bj(o:Op)(k:K->O):sT P call o ae.get H k=(step1 P call o ae H).bind k:=by
 unfold sT step1;cases e:cls o with
 |pure=>simp only[Cf];cases iU P o ae<;>rfl
 |read=>simp only[vS];cases hh P o ae H<;>rfl
 |both=>
  simp only[Cf,vS];unfold ha;cases iU P o ae with
  |some v=>rfl
  |none=>cases hh P o ae H<;>rfl
 |new=>
  simp only[JC];unfold uQ;cases jt P o ae H.next<;>rfl
 |write=>
  simp only[JL];unfold eI;cases h:kC P o ae H with
  |none=>rfl
  |some r=>
   obtain⟨v,H'⟩:=r;simp only[py];by_cases a:H.next<=H'.next
   ·rw[if_pos a,decide_eq_true a];rfl
   ·rw[if_neg a,decide_eq_false a];rfl
 |call=>
  cases o<;>try rfl
  rename_i c;simp only[Je];cases lp P H ae c with
  |none=>rfl
  |some p=>
   obtain⟨g,d⟩:=p;simp only[Option.bind_some];unfold eI;cases h:call g d H with
   |none=>rfl
   |some r=>
    obtain⟨v,H'⟩:=r;simp only[py];by_cases a:H.next<=H'.next
    ·rw[if_pos a,decide_eq_true a];rfl
    ·rw[if_neg a,decide_eq_false a];rfl
def Bk(ops:Array Oper)(o:Oper)(k:K->O):sU P call ops o ae.get H k=(hD P call ops o ae H).bind k:=by
 unfold sU hD kB;cases c:o.guard with
 |none=>exact Bj o.op k
 |some p=>
  obtain⟨j,want⟩:=p;simp only
  cases h:ops[j]? with
  |none=>rfl
  |some q=>
   simp only
   cases a:q.dst with
   |none=>rfl
   |some d=>
    simp only
    cases i:ae.get d<;>try rfl
    rename_i t;simp only[qA];cases e:(t==want)with
    |true=>simp only[aW];exact Bj o.op k
    |false=>rfl
def GR{dst:Option Nat}{v:aa}(h:ae.put dst v=D a_):eA ae.get dst v=a_.get:=by
 funext e
 rw[bb.rh h];cases dst with
 |none=>simp[eA]
 |some d=>
  simp only[eA];by_cases he:e=d
  ·subst he;simp[Nat.beq_refl]
  ·have a:Nat.beq e d=false:=by rw[<-Bool.not_eq_true,Nat.beq_eq];exact he
   rw[a];simp[Ne.symm he]
def nJ(n:Nat)(o:Oper):Bool:=match o.dst with
 |none=>X
 |some d=>decide (d<n)
def En{o:Oper}(h:nJ ae.size o=X)(v:aa):∃a_,ae.put o.dst v=D a_/\a_.size=ae.size:=by
 unfold nJ at h;cases a:o.dst with
 |none=>exact⟨ae,rfl,rfl⟩
 |some d=>
  rw[a]at h;exact⟨{ae with t:=bp.put v (d+1) ae.t d},by simp only[bb.put];rw[if_pos (of_decide_eq_true h)],rfl⟩
def Fi(ops:Array Oper)(k:cD->ad->O):∀(os:List Oper) (ae:bb) (H:ad),os.all (nJ ae.size)=X->
  uy P call ops os ae.get H k=(hK P call ops os ae H).bind λp=>k p.1.get p.2
 |[],ae,H,_=>rfl
 |o::os,ae,H,h=>by
  simp only[List.all_cons,Bool.and_eq_true]at h;simp only[uy,hK,Bk];cases d:hD P call ops o ae H with
  |none=>rfl
  |some x=>
   obtain⟨a_,a,c⟩:=En h.1 x.val;simp only[Option.bind_some,a,GR a];exact Fi ops k os a_ _ (by rw[c];exact h.2)
def bN.c(P:Program)(t:bN):jr:=⟨t.i,t.k,pt P t.o.op t.ae.get⟩
def zT(ms:List Nat):∀(T:List bN) (ids:List Nat),pj ms (T.map (bN.c P)) ids=iY ms T ids
 |[],_=>rfl
 |t::T,ids=>by
  simp only[List.map_cons,pj,iY,bN.c];cases t.k<;>simp only[zT ms T]
def x_(ms:List Nat)(rd:ad->Bool)(i:Nat):∀(T:List bN) (H:ad),qy ms rd i (T.map (bN.c P)) H=jO ms rd i T H
 |[],_=>rfl
 |t::T,H=>by
  simp only[List.map_cons,qy,jO,bN.c];cases t.k.fb
  ·simp only[aR];exact x_ ms rd i T H
  ·simp only[aW,if_true];rw[x_ ms rd i T]
def zI(ms:List Nat)(i:Nat):∀(T:List bN) (s:Bool),ph ms i (T.map (bN.c P)) s=nG ms i T s
 |[],_=>rfl
 |t::T,s=>by
  simp only[List.map_cons,ph,nG,bN.c];cases t.k<;>simp only[zI ms i T,List.all_map]<;>rfl
def DF(ms:List Nat)(rd:ad->Bool)(i:Nat):∀(T:List bN) (H:ad) (s:Bool),n1 ms rd i (T.map (bN.c P)) H s=j_ ms rd i T H s
 |[],_,_=>rfl
 |t::T,H,s=>by
  simp only[List.map_cons,n1,j_,bN.c];cases t.k<;>simp only[DF ms rd i T,List.all_map]<;>rfl
def ON(ms:List Nat)(rd:ad->Bool)(i:Nat)(T:List bN)(H:ad):xE ms rd i (T.map (bN.c P)) H=qk ms rd i T H:=by
 simp only[xE,qk,zI,DF,x_]
def G2(ms:List Nat)(d:List Nat)(a:Nat->Bool)(T:List bN)(H:ad):∀(S:List bN),(∀t∈S,d.contains t.i=a t.i)->uN ms d (T.map (bN.c P)) H (S.map (bN.c P))=lf P ms a T H S
 |[],_=>rfl
 |t::S,h=>by
  simp only[List.map_cons,uN,lf,G2 ms d a T H S λt e=>h t (by simp[e])]
  congr 1
  simp only[bN.c,h t (by simp)];cases t.k<;>try rfl
  simp only[ON]
  congr 2
  funext H
  simp only[bl,oa,vS];cases hh P t.o.op t.ae H<;>rfl
def Er(ms:List Nat):∀(T:List bN) (ids:List Nat),(∀t∈T,t.k.fb=U)->iY ms T ids=X
 |[],_,_=>rfl
 |t::T,ids,h=>by
  have a:=h t (by simp);simp only[iY];have d:=Er ms T ids λu hu=>h u (by simp[hu])
  cases c:t.k<;>rw[c]at a<;>first|exact d|(cases a;done)
def Es(ms:List Nat)(a:Nat->Bool)(T:List bN)(H:ad):∀(S:List bN),(∀t∈S,a t.i=X)->lf P ms a T H S=X
 |[],_=>rfl
 |t::S,h=>by
  simp only[lf,h t (by simp),Es ms a T H S λt c=>h t (by simp[c]),Bool.true_or,Bool.and_true];cases t.k<;>rfl
def vs(ops:Array Oper):∀(is:List Nat) (ae:bb) (H:ad) (k:List jr->cD->ad->O),ops.toList.all (nJ ae.size)=X->
  qU P call ops is ae.get H k=(canRun P call ops is ae H).bind λp=>k (p.1.map (bN.c P)) p.2.1.get p.2.2
 |[],ae,H,k,_=>rfl
 |i::is,ae,H,k,h=>by
  simp only[qU,canRun];cases e:ops[i]? with
  |none=>rfl
  |some o=>
   simp only[Bk];cases l:hD P call ops o ae H with
   |none=>rfl
   |some x=>
    have hm:nJ ae.size o=true:=by
     rw[List.all_eq_true]at h;exact h o (by have:=Array.mem_of_getElem? e;simpa using this)
    obtain⟨a_,a,d⟩:=En hm x.val;simp only[Option.bind_some,a,GR a];rw[vs ops is a_ _ _ (by rw[d];exact h)];cases canRun P call ops is a_ (x.heap H)with
    |none=>rfl
    |some p=>obtain⟨T,j,H1⟩:=p;rfl
def LJ(ops:Array Oper)(d:Bool)(k:cD->ad->O)(h:ops.toList.all (nJ ae.size)=X):xm P call ops d ae.get H k=(fr P call ops d ae H).bind λp=>k p.1.get p.2:=by
 unfold xm fr;cases d with
 |false=>exact Fi ops k _ ae H h
 |true=>
  simp only
  rw[vs ops _ ae H _ h,vs ops _ ae H _ h];cases l:canRun P call ops (order ops) ae H with
  |none=>cases quiet ops<;>rfl
  |some p=>
   obtain⟨T,z,H1⟩:=p;have u:=(kF l).1;have w:∀t∈T,t.i∈order ops:=λt a=>by rw[<-u];exact List.mem_map.2 ⟨t,a,rfl⟩
   have y:∀t∈T,(xX ops).contains t.i=tied ops (dF ops) (order ops) t.i:=λt a=>by
    unfold xX;rw[Bool.eq_iff_iff,List.contains_iff_mem,List.mem_filter];exact⟨λh=>h.2,λh=>⟨w t a,h⟩⟩
   simp only[Option.bind_some];cases c:quiet ops with
   |true=>
    have m:∀o∈ops.toList,nT o.op=false:=λo x=>by
     unfold quiet at c;rw[List.all_eq_true]at c;simpa using c o x
    have aK:∀t∈T,t.k.fb=false:=λt a=>by
     obtain⟨A,B,n⟩:=List.append_of_mem a;have e:=vt (P:=P) (call:=call) (by rw[<-n];exact l);cases s:t.k.fb with
     |false=>rfl
     |true=>
      have:=Cz e.2.2.1 s;rw[m t.o (by have:=Array.mem_of_getElem? e.1;simpa using this)]at this;cases this
    have q:∀t∈T,tied ops (dF ops) (order ops) t.i=true:=λt _=>by
     unfold tied;rw[List.all_eq_true];intro j _;cases v:ops[j]? with
     |none=>simp
     |some o=>simp[m o (by have:=Array.mem_of_getElem? v;simpa using this)]
    simp only[aW,Er (dF ops) T [] aK,Es (dF ops) _ T H T q];rfl
   |false=>
    simp only[aR,q1,zT,G2 _ _ _ T H T y];cases iY (dF ops) T []with
    |false=>rfl
    |true=>
     cases lf P (dF ops) (tied ops (dF ops) (order ops)) T H T<;>rfl
def iX(n:Nat):Code->Bool
 | .region _ ops _=>ops.toList.all (nJ n)
 | .seq a b=>iX n a&&iX n b
 | .cond _ a b=>iX n a&&iX n b
 | .block _ b=>iX n b
 | .loop b=>iX n b
 |_=>X
def pk(r:Option (aA×bb×ad))(a:ek)(ks:List (Nat×ek))(c:ek):O:=match r with
 |some (.normal,ae,H)=>a ae.get H
 |some (.exit id,ae,H)=>look id ks ae.get H
 |some (.ret,ae,H)=>c ae.get H
 |none=>C
def Fv{ops:Array Oper}:∀{os:List Oper} {ae a_:bb} {H H':ad},hK P call ops os ae H=D (a_,H')->a_.size=ae.size
 |[],ae,a_,H,H',h=>by
  simp only[hK,aV,b4]at h;rw[h.1]
 |o::os,ae,a_,H,H',h=>by
  simp only[hK]at h;split at h
  ·cases h
  ·split at h
   ·cases h
   ·rename_i c a;rw[Fv h,bb.qm a]
def Fs{ops:Array Oper}:∀{is:List Nat} {ae a_:bb} {H H':ad} {T:List bN},canRun P call ops is ae H=D (T,a_,H')->a_.size=ae.size
 |[],ae,a_,H,H',T,h=>by
  simp only[canRun,aV,b4]at h;rw[h.2.1]
 |i::is,ae,a_,H,H',T,h=>by
  simp only[canRun]at h;split at h
  ·cases h
  ·split at h
   ·cases h
   ·split at h
    ·cases h
    ·rename_i d a;split at h
     ·cases h
     ·rename_i c;simp only[aV,b4]at h;obtain⟨_,rfl,_⟩:=h;rw[Fs c,bb.qm a]
def O1{ops:Array Oper}{d:Bool}{ae a_:bb}{H H':ad}(h:fr P call ops d ae H=D (a_,H')):a_.size=ae.size:=by
 unfold fr at h;split at h
 ·exact Fv h
 ·split at h
  ·cases h
  ·rename_i a;split at h
   ·cases h
   ·split at h
    ·cases h
    ·simp only[aV,b4]at h;obtain⟨rfl,_⟩:=h;exact Fs a
def Fu{f:bb->ad->Option (aA×bb×ad)}(a:∀ae H ex a_ H',f ae H=D (ex,a_,H')->a_.size=ae.size):
  ∀{n:Nat} {ae:bb} {H:ad} {ex:aA} {a_:bb} {H':ad},iter f n ae H=D (ex,a_,H')->a_.size=ae.size
 |0,_,_,_,_,_,h=>by cases h
 |n+1,ae,H,ex,a_,H',h=>by
  simp only[iter]at h;split at h
  ·rename_i d H1 c;rw[Fu a h,a _ _ _ _ _ c]
  ·exact a _ _ _ _ _ h
def Ft{N:Nat}:∀(c:Code) {ae:bb} {H:ad} {ex:aA} {a_:bb} {H':ad},cH (fr P call) N c ae H=D (ex,a_,H')->a_.size=ae.size:=by
 intro c
 induction c with
 |skip=>intro ae H ex a_ H' h;simp only[cH,aV,b4]at h;rw[h.2.1]
 |region id ops d=>
  intro ae H ex a_ H' h;simp only[cH]at h;split at h
  ·rename_i m H1 e;simp only[aV,b4]at h;obtain⟨_,rfl,_⟩:=h;exact O1 e
  ·cases h
 |seq a b j k=>
  intro ae H ex a_ H' h;simp only[cH]at h;split at h
  ·rename_i m H1 e;rw[k h,j e]
  ·exact j h
 |cond c a b j k=>
  intro ae H ex a_ H' h;simp only[cH]at h;split at h
  ·exact j h
  ·exact k h
  ·cases h
 |block id b i=>
  intro ae H ex a_ H' h;simp only[cH]at h;split at h
  ·rename_i n m H1 e;split at h<;>(simp only[aV,b4]at h;obtain⟨_,rfl,_⟩:=h;exact i e)
  ·exact i h
 |loop b i=>
  intro ae H ex a_ H' h;simp only[cH]at h;exact Fu (λ_ _ _ _ _ h=>i h) h
 |exit id=>intro ae H ex a_ H' h;simp only[cH,aV,b4]at h;rw[h.2.1]
 |ret=>intro ae H ex a_ H' h;simp only[cH,aV,b4]at h;rw[h.2.1]
 |label l=>intro ae H ex a_ H' h;simp only[cH,aV,b4]at h;rw[h.2.1]
 |goto l=>intro ae H ex a_ H' h;cases h
 |scope b i=>intro ae H ex a_ H' h;cases h
 |rangeFunc f o a b j k=>intro ae H ex a_ H' h;cases h
 |refuse y=>intro ae H ex a_ H' h;cases h
def Cr{f:bb->ad->Option (aA×bb×ad)}{b:ek->ek}{ks:List (Nat×ek)}{e:ek}(m:Nat)(ax:∀ae H ex a_ H',f ae H=D (ex,a_,H')->a_.size=ae.size)
  (d:∀(ae:bb) (H:ad) (a:ek),ae.size=m->b a ae.get H=pk (f ae H) a ks e) (a:ek):∀(n:Nat) (ae:bb) (H:ad),ae.size=m->nU b n ae.get H=pk (iter f n ae H) a ks e
 |0,ae,H,_=>rfl
 |n+1,ae,H,c=>by
  simp only[nU,iter];rw[d ae H _ c];cases h:f ae H with
  |none=>rfl
  |some x=>
   obtain⟨ex,i,H1⟩:=x;cases ex with
   |normal=>exact Cr m ax d a n i H1 (by rw[ax _ _ _ _ _ h];exact c)
   |exit id=>rfl
   |ret=>rfl
def zN{N:Nat}:∀(c:Code) (ae:bb) (H:ad) (e:ek) (ks:List (Nat×ek)) (i:ek),iX ae.size c=X->br P call N c e ks i ae.get H=pk (cH (fr P call) N c ae H) e ks i:=by
 intro c
 induction c with
 |skip=>intro ae H e ks i _;rfl
 |region id ops d=>
  intro ae H e ks i h;simp only[br,cH];rw[LJ ops d e h];cases fr P call ops d ae H<;>rfl
 |seq a b m n=>
  intro ae H e ks i h;simp only[iX,Bool.and_eq_true]at h;simp only[br,cH];rw[m ae H _ ks i h.1];cases he:cH (fr P call) N a ae H with
  |none=>rfl
  |some x=>
   obtain⟨ex,j,H1⟩:=x;cases ex with
   |normal=>exact n j H1 e ks i (by rw[Ft a he];exact h.2)
   |exit id=>rfl
   |ret=>rfl
 |cond c a b m n=>
  intro ae H e ks i h;simp only[iX,Bool.and_eq_true]at h;simp only[br,cH,kI];unfold aX;cases ca ae c with
  |none=>rfl
  |some v=>
   cases v<;>try rfl
   rename_i t;cases t
   ·exact n ae H e ks i h.2
   ·exact m ae H e ks i h.1
 |block id b k=>
  intro ae H e ks i h;simp only[br,cH];rw[k ae H e _ i h];cases he:cH (fr P call) N b ae H with
  |none=>rfl
  |some x=>
   obtain⟨ex,j,H1⟩:=x;cases ex with
   |normal=>rfl
   |ret=>rfl
   |exit o=>
    simp only[pk,look];by_cases hid:o=id
    ·subst hid;simp[Nat.beq_refl]
    ·have p:Nat.beq o id=false:=by rw[<-Bool.not_eq_true,Nat.beq_eq];exact hid
     rw[p,if_neg hid];rfl
 |loop b k=>
  intro ae H e ks i h;simp only[br,cH];exact Cr ae.size (λ_ _ _ _ _ h=>Ft b h) (λj H1 e q=>k j H1 e ks i (by rw[q];exact h)) e N ae H rfl
 |exit id=>intro ae H e ks i _;rfl
 |ret=>intro ae H e ks i _;rfl
 |label l=>intro ae H e ks i _;rfl
 |goto l=>intro ae H e ks i _;rfl
 |scope b k=>intro ae H e ks i _;rfl
 |rangeFunc f s a b m n=>intro ae H e ks i _;rfl
 |refuse y=>intro ae H e ks i _;rfl
def tI{ae:bb}{H:ad}:∀(rs:List ResultVar) (k:List aa->O),pW P H ae.get rs k=(hA P ae H rs).bind k
 |[],k=>rfl
 | .tmp t::rs,k=>by
  simp only[pW,hA,pe];rw[tI rs];cases hA P ae H rs<;>rfl
 | .cell a t::rs,k=>by
  simp only[pW,hA,pe];cases ak P H t (ae.get a)with
  |none=>rfl
  |some v=>
   simp only[Option.bind_some];rw[tI rs];cases hA P ae H rs<;>rfl
def yS(n:Nat)(args:List aa):(bb.enter n args).get=lq args:=by
 have h:∀(args:List aa) (d:Nat),lq args d=(args[d]?).getD (.tuple []):=by
  intro args
  induction args with
  |nil=>intro d;cases d<;>rfl
  |cons v e c=>
   intro d;cases d with
   |zero=>rfl
   |succ d=>simpa [lq]using c d
 funext d
 rw[h];unfold bb.get bb.enter;simp only[w1];by_cases a:d<args.length
 ·rw[if_pos af];simp[a]
 ·rw[if_neg af,bp.re];simp[a]
def I7{f:Nat}{args:List aa}{H:ad}{fn:Func}{c:Code}{M:Nat}{r:aa×ad}(i:ay f args H=C)(l:P.funcs[f]? =D fn)(k:fn.body=D c)(m:iX fn.ntmps c=X)(n:Nat.ble args.length fn.ntmps=X)
  (h:br P (aD P ay) M c (lH P fn.results.toList) [] (lH P fn.results.toList) (lq args) H=D r):aD P ay f args H=D r:=by
 have ax:(bb.enter fn.ntmps args).size=fn.ntmps:=by have:=Nat.le_of_ble_eq_true n;simp only[bb.enter];omega
 rw[<-yS fn.ntmps,zN c _ _ _ _ _ (by rw[ax];exact m)]at h;unfold pk at h;have fin:∀(ae:bb) (H':ad),lH P fn.results.toList ae.get H'=D r->∃d,hA P ae H' fn.results.toList=D d/\r=(mh d,H'):=by
  intro ae H' a;unfold lH at a;rw[tI]at a;cases j:hA P ae H' fn.results.toList with
  |none=>rw[j]at a;cases a
  |some d=>rw[j]at a;exact⟨d,rfl,(Option.some.inj a).symm⟩
 split at h
 ·rename_i ae H' he;obtain⟨d,e,rfl⟩:=fin ae H' h;exact Aa i l k he (λid=>by intro a;cases a) e
 ·cases h
 ·rename_i ae H' he;obtain⟨d,e,rfl⟩:=fin ae H' h;exact Aa i l k he (λid=>by intro a;cases a) e
 ·cases h
end
end Go.bs
namespace Go
def a7:Code->Code
 | .seq a _=>a
 | .cond _ a _=>a
 | .block _ b=>b
 | .loop b=>b
 |c=>c
def o:Code->Code
 | .seq _ b=>b
 | .cond _ _ b=>b
 |c=>c
def Code.test:Code->Operand
 | .cond c _ _=>c
 |_=> .tmp 0
def Code.num:Code->Nat
 | .block id _=>id
 | .exit id=>id
 |_=>0
def Code.Ke:Code->Bool| .seq _ _=>X|_=>U
def Code.Ka:Code->Bool| .cond _ _ _=>X|_=>U
def Code.J_:Code->Bool| .block _ _=>X|_=>U
def Code.Kc:Code->Bool| .loop _=>X|_=>U
end Go
namespace Go.bs
section
variable {P:Program}{call:az}{N:Nat}{iR hd:ek}{hf:List (Nat×ek)}
def aQ{c:Code}{k T:ek}(d:c.Ke=X)(h:∀ae H,br P call N (o c) iR hf hd ae H=k ae H)(e:∀ae H,br P call N (a7 c) k hf hd ae H=T ae H):
  ∀ae H,br P call N c iR hf hd ae H=T ae H:=by
 cases c<;>first|cases d|skip
 rename_i a b;intro ae H;rw[<-e];show br P call N a (λae H=>br P call N b iR hf hd ae H) hf hd ae H=_;rw[show(λae H=>br P call N b iR hf hd ae H)=k from funext λae=>funext λH=>h ae H];rfl
def dB{c:Code}{A B:ek}(e:c.Ka=X)(a:∀ae H,br P call N (a7 c) iR hf hd ae H=A ae H)(d:∀ae H,br P call N (o c) iR hf hd ae H=B ae H):
  ∀ae H,br P call N c iR hf hd ae H=aX (dn ae c.test) (A ae H) (B ae H):=by
 cases c<;>first|cases e|skip
 intro ae H;rw[<-a,<-d];rfl
def dm{c:Code}{T:ek}(d:c.J_=X)(a:∀ae H,br P call N (a7 c) iR ((c.num,iR)::hf) hd ae H=T ae H):∀ae H,br P call N c iR hf hd ae H=T ae H:=by
 cases c<;>first|cases d|skip
 intro ae H;rw[<-a];rfl
def eB{c:Code}{k:Nat->ek}(e:c.Kc=X)(d:∀ae H,k 0 ae H=C)(ax:∀n ae H,br P call N (a7 c) (k n) hf hd ae H=k (n+1) ae H):∀ae H,br P call N c iR hf hd ae H=k N ae H:=by
 cases c<;>first|cases e|skip
 rename_i b;have key:∀n ae H,nU (λa ae H=>br P call N b a hf hd ae H) n ae H=k n ae H:=by
  intro n
  induction n with
  |zero=>intro ae H;exact(d ae H).symm
  |succ n h=>
   intro ae H;rw[<-ax n ae H];show br P call N b (λae H=>nU _ n ae H) hf hd ae H=_;rw[show(λae H=>nU (λa ae H=>br P call N b a hf hd ae H) n ae H)=k n from funext λae=>funext λH=>h ae H];rfl
 intro ae H;exact key N ae H
def aL(c:Code):∀ae H,br P call N c iR hf hd ae H=br P call N c iR hf hd ae H:=λ_ _=>rfl
def j(r:Option aa)(k:aa->O):O:=match r with
 |some v=>k v
 |none=>C
def aJ(H:ad)(r:O)(k:aa->ad->O):O:=match r with
 |some (v,H')=>bif decide (H.next<=H'.next)then k v H' else C
 |none=>C
def a8(H:ad)(r:Option ad)(k:ad->O):O:=aJ H (r.bind λH'=>D (.tuple [],H')) λ_ H'=>k H'
def bZ(H:ad)(r:Option (aa×bW))(k:aa->ad->O):O:=match r with
 |some (v,b)=>k v (H.push b)
 |none=>C
def cn(H:ad)(cs:List aa)(k:aa->ad->O):O:=k (.ptr H.next 0 0) (H.push (.row U cs.length [cs]))
def bD(fn:Func):Code:=match fn.body with
 |some c=>c
 |none=> .skip
def bh(P:Program)(b:Builtin)(ts:List TypeId)(a:List aa)(H:ad)(k:aa->O):O:=match b_ P .empty b ts a with
 |some v=>k v
 |none=>(b_ P H b ts a).bind k
def qz(P:Program)(s d:TypeId)(v:aa)(H:ad)(k:aa->O):O:=match mg P s d v with
 |some v=>k v
 |none=>(nA P H s d v).bind k
def cv(v:aa)(q:K->O):O:=q (.pure v)
def bu(r:Option aa)(q:K->O):O:=r.bind λv=>q (.pure v)
def qr(r:Option aa)(q:K->O):O:=r.bind λv=>q (.read v)
def aN(b:aa)(want:Bool)(H:ad)(m:(K->O)->O)(k:aa->ad->O):O:=qA b want m λx=>k x.val (x.heap H)
