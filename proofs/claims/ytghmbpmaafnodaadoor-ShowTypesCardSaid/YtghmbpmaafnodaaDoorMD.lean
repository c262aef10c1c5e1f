/-
  Texts of one proof, laid together: Hv16 Hv17 Hv21 Hv22 Hv23.
-/
import Derived.Test.YtghmbpmaafnodaaDoorMC
set_option linter.unusedVariables false
set_option linter.unusedSimpArgs false
set_option linter.defProp false
open Option renaming some→D,none→Z
open Bool renaming true→X,false→U
namespace Go.b9
section
variable {E:Env}{P:Program}{call:ax}{ops:Array Oper}{ord:List Nat}{eb cu:a7}{H0 bI:ad}{T:List bC}{ρ0:Env}{w0:World}{Q:Exit->Act->World->Prop}
def Ctx.uniq(c:Ctx P call ops ord eb H0 T cu bI){A B:List bC}{t:bC}(h:T=A++t::B){u:bC}(hu:u∈T)(he:u.i=t.i):u=t:=by
 rw[h]at hu;rcases List.mem_append.1 hu with hu|hu
 ·exact absurd he (c.before h hu).1
 ·rcases List.mem_cons.1 hu with rfl|hu
  ·rfl
  ·exact absurd he.symm (c.after h hu).1
def tp(H0:ad)(T:List bC)(N:Nat)(ρ0:Env)(w0:World)(L:Nat->Bool)(ρ:Env)(w:World)(T1 T2:List bC):Prop:=T=T1++T2/\(∀t∈T1,t.k.eV=X->L t.i=X)/\(∀t∈T2,(∃v H,t.k= .dM v H)->L t.i=U)/\eL ρ0 H0 w0 N (dN L T2 (cb T1 H0)) ρ (cb T1 H0) w
def Ctx.next(c:Ctx P call ops ord eb H0 T cu bI){A B:List bC}{t:bC}(h:T=A++t::B){listed:Array Bool}(az:listed.size=ops.size)(z:pA ops (cZ listed))(N:cZ listed t.i=U)
  (hw:n1 (cZ listed) t.o) {ρ:Env} {l:a7} {a:Act} {x:Value} {w:World} (R:dC ρ l a) (K:l.size=eb.size) (S:∀d,l.get d=ft (cZ listed) d T (eb.get d)) (Q:ba ρ t.k.val x) {T1 T2:List bC}
  (m:tp H0 T bI.next ρ0 w0 (cZ (listed.setIfInBounds t.i X)) ρ w T1 T2):Inv ops eb H0 T bI.next ρ0 w0 (listed.setIfInBounds t.i X) (a.put t.o.dst x) w:=by
 obtain⟨H,_,_,L⟩:=c.at h;have F:t.i<listed.size:=by rw[az];exact(Array.getElem?_eq_some_iff.1 H).1
 have v:cZ (listed.setIfInBounds t.i X) t.i=true:=by rw[r0 F];simp
 have n:∀j,j≠t.i->cZ (listed.setIfInBounds t.i X) j=cZ listed j:=λj s=>by rw[r0 F];simp[s]
 have G:∀j,cZ listed j=X->cZ (listed.setIfInBounds t.i X) j=true:=λj s=>by
  by_cases e:j=t.i
  ·rw[e];exact v
  ·rw[n j e];exact s
 have O:∃a6,l.put t.o.dst t.k.val=D a6:=by
  cases M:t.o.dst with
  |none=>exact⟨l,rfl⟩
  |some d=>
   have:=L d M;exact⟨{l with t:=bk.put t.k.val (d+1) l.t d},by simp only[a7.put];rw[if_pos (by rw[K];exact this)]⟩
 obtain⟨a6,p⟩:=O;refine⟨by simpa using az,λi o q E e he y=> ?_,ρ,T1,T2,m.1,m.2.1,m.2.2.1,m.2.2.2,a6,R.put p Q,by rw[a7.pe p,K],λd=> ?_⟩
 ·by_cases u:i=t.i
  ·subst u;rw[H]at q;cases q;exact G _ (hw e he y)
  ·rw[n i u]at E;exact G _ (z i o q E e he y)
 ·rw[a7.p8 p d,c.tE h z N v n d,S d]
def Ctx.norm(c:Ctx P call ops ord eb H0 T cu bI){N:Nat}{L:Nat->Bool}{ρ:Env}{w:World}:∀{T2 T1:List bC},tp H0 T N ρ0 w0 L ρ w T1 T2->
  ∃y n,tp H0 T N ρ0 w0 L ρ w y n/\∀u e,n=u::e->u.k.eV=X/\L u.i=U
 |[],T1,m=>⟨T1,[],m,λu e h=>by cases h⟩
 |u::T2,T1,m=>by
  by_cases j:u.k.eV=X/\L u.i=U
  ·exact⟨T1,u::T2,m,λE e h=>by simp only[List.cons.injEq]at h;rw[<-h.1];exact j⟩
  ·obtain⟨o,z,p,A⟩:=m;have s:=pS c.aE;rw[o]at s;have B:=(eh.append s).2;have m':=eL.turns (zC:=[u]) (zD:=T2) (L:=L) B (λv a d=>by
    have:v=u:=by simpa using a
    subst this;have l:L v.i=true:=by
     cases a:L v.i with
     |true=>rfl
     |false=>exact absurd ⟨d,a⟩ j
    refine⟨l,?_⟩;cases q:v.k with
    |new x b=>exact⟨x,b,rfl⟩
    |dM x H=>rw[p v (by simp) ⟨x,H,q⟩]at l;cases l
    |_=>rw[q]at d;cases d) A
   rw[<-jD]at m';refine c.norm (T2:=T2) (T1:=T1++[u]) ⟨by rw[o];simp,λv a d=> ?_,λv a=>p v (by simp[a]),m'⟩;rcases List.mem_append.1 a with a|a
   ·exact z v a d
   ·have:v=u:=by simpa using a
    subst this;cases a:L v.i with
    |true=>rfl
    |false=>exact absurd ⟨d,a⟩ j
def vB{L:Nat->Bool}{u:bC}{v:aa}{b:bN}(hu:u.k= .new v b)(e:L u.i=X):∀{zC zD:List bC} {H:ad},eh H (zC++u::zD)->dN L (zC++u::zD) H (cb zC H).next=D b
 |[],zD,H,_=>by simp[dN,hu,e,cb]
 |c::zC,zD,H,hm=>by
  have a:=vB hu e (zC:=zC) (zD:=zD) hm.2;have hle:∀{zC:List bC} {H:ad},eh H zC->H.next<=(cb zC H).next:=by
   intro zC
   induction zC with
   |nil=>intro H _;exact bf _
   |cons x zC n=>intro H h;exact Nat.le_trans h.1 (n h.2)
  by_cases l:∃v b,c.k= .new v b
  ·obtain⟨o,cj,j⟩:=l;have d:=hle (eh.append hm.2).1;have m:=hm.2;rw[j]at d m a;simp only[K.heap,ad.bQ]at d a;simp only[List.cons_append,dN,j,cb,K.heap];rw[if_neg af];exact a
  ·rw[List.cons_append,qG λv b h=>l ⟨v,b,h⟩,cb];exact a
def uK{l:Nat}:∀{zC:List bC} {H:ad},(∀x∈zC,lL x.k=X)->l<H.next->(cb zC H).get l=H.get l
 |[],H,_,_=>rfl
 |c::zC,H,a,i=>by
  have e:=a c (by simp);rw[cb];cases h:c.k with
  |new v b=>
   rw[uK (λx d=>a x (by simp[d])) (by simp only[K.heap,ad.bQ];omega)];exact ad.dp af
  |dM v H'=>rw[h]at e;cases e
  |_=>exact uK (λx d=>a x (by simp[d])) i
def Rel.Jd{ρ:Env}{H:ad}{w:World}{b:bN}(h:b≠ .dead->∃loc,ρ H.next=D loc/\iy ρ w loc b):Rel ρ (H.push b).only w where
 row l ro esz els a:=by
  obtain⟨rfl,rfl⟩:=ad.qw a;obtain⟨loc,c,d⟩:=h (by intro e;cases e);exact⟨loc,c,d⟩
 map l es a:=by
  obtain⟨rfl,rfl⟩:=ad.qw a;obtain⟨loc,c,d⟩:=h (by intro e;cases e);exact⟨loc,c,d⟩
 bS l t esz els a:=by
  obtain⟨rfl,rfl⟩:=ad.qw a;obtain⟨loc,c,d⟩:=h (by intro e;cases e);exact⟨loc,c,d⟩
 apart l l' loc j c d i _ _:=by
  exfalso;have aQ:∃x,(H.push b).only.get l=D x:=by
   unfold ad.rw at c;cases a:(H.push b).only.get l with
   |none=>simp[a]at c
   |some x=>exact⟨x,rfl⟩
  have a2:∃x,(H.push b).only.get l'=D x:=by
   unfold ad.live at d;cases a:(H.push b).only.get l' with
   |none=>simp[a]at d
   |some x=>exact⟨x,rfl⟩
  obtain⟨x,aQ⟩:=aQ;obtain⟨y,a2⟩:=a2;exact i ((ad.qw aQ).1.trans (ad.qw a2).1.symm)
def Ctx.any(c:Ctx P call ops ord eb H0 T cu bI)(bv:iT E P call)(bq:E.le ρ0)(bu:∀ρ a w,dC ρ cu a->Step ρ0 H0 w0 ρ bI w->Q .normal a w):
  ∀(fuel:Nat) (listed:Array Bool) (a:Act) (w:World),Inv ops eb H0 T bI.next ρ0 w0 listed a w->(List.range ops.size).countP (λj=> !cZ listed j)<=fuel->wpAny P .any ops Q fuel listed a w:=by
 have a_:∀listed a w,Inv ops eb H0 T bI.next ρ0 w0 listed a w->Region.ready .any ops listed=[]->Q .normal a w:=by
  intro listed a w s av;obtain⟨ρ,n,W⟩:=c.final s (c.F6 s.size av);exact bu ρ a w n W
 intro fuel
 induction fuel with
 |zero=>
  intro listed a w s bw;have av:Region.ready .any ops listed=[]:=by
   rw[List.eq_nil_iff_forall_not_mem];intro i aX;obtain⟨o,n,W,aS,aT⟩:=C6 aX s.size;have b4:0<(List.range ops.size).countP (λj=> !cZ listed j):=List.countP_pos_iff.2 ⟨i,by simpa using aT,by simp[W]⟩;omega
  exact⟨av,a_ _ _ _ s av⟩
 |succ fuel aH=>
  intro listed a w s bw;refine⟨λav=>a_ _ _ _ s av,λi aX=> ?_⟩;obtain⟨o,al,ab,hw,a0⟩:=C6 aX s.size;have bj:=c.vD;simp only[oJ,Bool.and_eq_true,List.all_eq_true,List.mem_range]at bj;have bi:=bj.1 i a0;rw[List.contains_iff_mem,<-(j5 c.aE).1,List.mem_map]at bi;obtain⟨t,ag,rfl⟩:=bi;have bJ:=c.mem ag;obtain rfl:t.o=o:=Option.some.inj (bJ.symm.trans al);obtain⟨ρ,T1,T2,S,az,aA,m,a5,ak,a4,aO⟩:=s.mid;have bk:t.i<listed.size:=by rw[s.size];exact a0
  have an:cZ (listed.setIfInBounds t.i X) t.i=true:=by rw[r0 bk];simp
  have V:∀j,j≠t.i->cZ (listed.setIfInBounds t.i X) j=cZ listed j:=λj ap=>by rw[r0 bk];simp[ap]
  have aV:(List.range ops.size).countP (λj=> !cZ (listed.setIfInBounds t.i X) j)<=fuel:=by
   have:=ys (p:=λj=> !cZ listed j) (q:=λj=> !cZ (listed.setIfInBounds t.i X) j) (i:=t.i) (l:=List.range ops.size) (by simpa using a0)
    (λj ap=>by
     by_cases e:j=t.i
     ·rw[e,an]at ap;cases ap
     ·simp only[V j e]at ap;exact ap) (by simp[ab]) (by simp[an])
   omega
  obtain⟨aP,aK,G⟩:=List.append_of_mem ag;have bh:∀d∈t.o.looksAt ops,a5.get d=t.ae.get d:=λd bz=>by rw[aO d];exact c.looks G s.closed hw ab d bz
  have aN:=GG bh;have bK:Region.wanted t.o (yielded ops a.tmps)=j2 ops t.ae t.o:=(xF ak t.o).trans (GI bh);unfold wpOp;rw[al];simp only[bK];have still:t.k.eV=U->∀x,ba ρ t.k.val x->wpAny P .any ops Q fuel (listed.setIfInBounds t.i X) (a.put t.o.dst x) w:=by
   intro z x F;refine aH _ _ _ (c.next G s.size s.closed ab hw ak a4 aO F (T1:=T1) (T2:=T2) ⟨S,λu hu aj=> ?_,λu hu am=> ?_,?_⟩) aV
   ·have:=az u hu aj;by_cases e:u.i=t.i
    ·rw[e];exact an
    ·rw[V _ e];exact this
   ·have au:u.i≠t.i:=λe=>by
     have:=c.uniq G (by rw[S];simp[hu]) e;subst this;obtain⟨v,H,R⟩:=am;rw[R]at z;cases z
    rw[V _ au];exact aA u hu am
   ·rw[qE (L':=cZ listed) λu hu v b R=>V _ λe=>by
     have:=c.uniq G (by rw[S];simp[hu]) e;subst this;rw[R]at z;cases z]
    exact m
  rcases ou (c.at G).2.2.1 with⟨aw,R⟩|⟨aw,R⟩
  ·rw[aw];simp only[if_true];refine .inl ?_;have a6:t.k.eV=X->∃zC zD,T2=zC++t::zD:=λz=>by
    rw[S]at ag;rcases List.mem_append.1 ag with ag|ag
    ·have:=az t ag z;rw[ab]at this;cases this
    ·exact List.append_of_mem ag
   have aq:=pS c.aE;cases y:t.k with
   |skip=>rw[y]at R;exact R.elim
   |pure v=>
    rw[y]at R;have aa:=kG.congr (λx F=>(aN x F).symm) R;exact CM aa ak λx F=>still (by rw[y];rfl) x (by rw[y];exact F)
   |read v=>
    obtain⟨aL,aR,⟨f1,f2,f3,f4⟩,f5⟩:=c.norm (ρ0:=ρ0) (w0:=w0) (N:=bI.next) (L:=cZ listed) (ρ:=ρ) (w:=w) (T2:=T2) (T1:=T1) ⟨S,az,aA,m⟩;have aM:∃aQ,Rel ρ aQ w/\gJ P t.o.op t.ae aQ=D v:=by
     rcases Fh y c.NI ag with bA|bG
     ·
       refine⟨_,f4.rel,?_⟩;have be:gJ P t.o.op t.ae (cb aP H0)=D v:=by
        rcases ou (c.at G).2.2.1 with⟨_,bd⟩|⟨F,_⟩
        ·rw[y]at bd;exact bd
        ·rw[aw]at F;cases F
       have bc:∀u∈T,u.k.eV=X->u.i≠t.i/\(c6 (dx ops) u.i t.i=X\/c6 (dx ops) t.i u.i=X):=λu hu z=>by
        have au:u.i≠t.i:=λe=>by
         have:=c.uniq G hu e;subst this;rw[y]at z;cases z
        obtain⟨b1,b2,n⟩:=List.append_of_mem hu;refine⟨au,Nc bA ?_ au (c.at n).1 (Bc (c.at n).2.2.1 z)⟩;rw[<-(j5 c.aE).1,List.mem_map];exact⟨u,hu,rfl⟩
       have bE:∀u∈aP,u.k.eV=X->cZ listed u.i=true:=λu hu z=>by
        rcases(bc u (by rw[G];simp[hu]) z).2 with n|n
        ·exact j4 s.closed _ _ al hw _ n
        ·have:=(c.before G hu).2.1;rw[n]at this;cases this
       have bB:∀u∈aK,u.k.eV=X->cZ listed u.i=false:=λu hu z=>by
        have bl:u∈T:=by rw[G];simp[hu]
        rcases(bc u bl z).2 with n|n
        ·have:=(c.after G hu).2.1;rw[n]at this;cases this
        ·cases ai:cZ listed u.i with
         |false=>rfl
         |true=>
          have aG:=c.mem bl;have:=j4 s.closed _ _ aG (s.closed _ _ aG ai) _ n;rw[ab]at this;cases this
       have a3:aL++aR=aP++t::aK:=by rw[<-f1,<-G]
       rcases List.append_eq_append_iff.1 a3 with⟨bR,aB,aU⟩|⟨c',ao,ah⟩
       ·cases bR with
        |nil=>rw[List.append_nil]at aB;rw[<-aB];exact be
        |cons u bp=>
         obtain⟨g1,g2⟩:=f5 u (bp++t::aK) aU;have:=bE u (by rw[aB];simp) g1;rw[g2]at this;cases this
       ·have bH:∀(aJ:List bC) (H:ad),(∀u∈aJ,u.k.eV=U)->cb aJ H=H:=by
         intro aJ
         induction aJ with
         |nil=>intro H _;rfl
         |cons u aJ aH=>intro H a7;rw[cb,rK (a7 u (by simp))];exact aH H λu hu=>a7 u (by simp[hu])
        rw[ao,jD,bH c' _ ?_]
        ·exact be
        ·intro u hu;cases z:u.k.eV with
         |false=>rfl
         |true=>
          have n:=f2 u (by rw[ao];simp[hu]) z;have W:u∈t::aK:=by rw[ah];simp[hu]
          rcases List.mem_cons.1 W with rfl|W
          ·rw[y]at z;cases z
          ·have:=bB u W z;rw[n]at this;cases this
     ·rcases MD bG with bm|bF
      rotate_left
      ·obtain⟨A,u,B,bY,b,g1,g2,g3,g4,g5⟩:=Cf bF;refine⟨_,Rel.Jd λaC=> ?_,C4 g5⟩;have ai:=j4 s.closed _ _ al hw _ g3;have a3:aL++aR=A++u::B:=by rw[<-f1,<-g1]
       rcases List.append_eq_append_iff.1 a3 with⟨bR,aB,aU⟩|⟨c',ao,ah⟩
       ·have aF:=f4.iP (cb A H0).next b (by
         rw[f1]at aq;have M:=(eh.append aq).2;rw[aU]at M ⊢;rw[aB,jD];exact vB g2 ai M)
        obtain⟨_,_,_,loc,aI,ax,_⟩:=aF;exact⟨loc,aI,ax⟩
       ·cases c' with
        |nil=>
         have aF:=f4.iP (cb A H0).next b (by
          rw[f1]at aq;have M:=(eh.append aq).2;rw[List.nil_append]at ah;rw[List.append_nil]at ao;rw[<-ah]at M ⊢;rw[ao]at M ⊢;exact vB (zC:=[]) g2 ai M)
         obtain⟨_,_,_,loc,aI,ax,_⟩:=aF;exact⟨loc,aI,ax⟩
        |cons x b3=>
         simp only[List.cons_append,List.cons.injEq]at ah;obtain⟨rfl,ah⟩:=ah;have aW:(cb aL H0).get (cb A H0).next=D b:=by
          rw[ao,jD,cb,g2];rw[uK (λx F=>g4 x (by rw[ah];simp[F])) (by simp[K.heap])];exact ad.bx _ b
         cases b with
         |row ro esz els=>exact f4.rel.row _ _ _ _ aW
         |map es=>exact f4.rel.map _ _ aW
         |bS t esz els=>exact f4.rel.bS _ _ _ _ aW
         |dead=>exact absurd rfl aC
      refine⟨_,f4.rel,?_⟩;rw[show jr (dx ops) (mY P t.o.op t.ae v) t.i T H0=jr (dx ops) (mY P t.o.op t.ae v) t.i (aL++aR) H0 by rw[<-f1]]at bm;exact C4 (wO bm (λu hu aj=>by
       cases aC:c6 (dx ops) t.i u.i with
       |false=>rfl
       |true=>
        have aG:=c.mem (t:=u) (by rw[f1];simp[hu]);have:=j4 s.closed _ _ aG (s.closed _ _ aG (f2 u hu aj)) _ aC;rw[ab]at this;cases this) (λu bo hu=>by
       obtain⟨g1,g2⟩:=f5 u bo hu;refine⟨g1,?_⟩;cases aC:c6 (dx ops) u.i t.i with
       |false=>rfl
       |true=>
        have:=j4 s.closed _ _ al hw _ aC;rw[g2]at this;cases this))
    obtain⟨aQ,bL,aM⟩:=aM;rw[<-xv aN]at aM;exact C5 bL aM ak λx F=>still (by rw[y];rfl) x (by rw[y];exact F)
   |new v b=>
    obtain⟨zC,zD,O⟩:=a6 (by rw[y];rfl);have n:T=(T1++zC)++t::zD:=by rw[S,O];simp
    have aY:=(c.at n).2.2.1;rcases ou aY with⟨_,aD⟩|⟨F,_⟩
    ·rw[y]at aD;have aa:=kG.congr (λx F=>(aN x F).symm) aD;have M:eh (cb T1 H0) (zC++t::zD):=by
      have:=aq;rw[S,O]at this;exact(eh.append this).2
     obtain⟨aI,ax⟩:=CG (L:=cZ listed) (L':=cZ (listed.setIfInBounds t.i X)) y ab an M
      (λu hu=>(V _ (c.before n (by simp[hu])).1).symm) (λu hu=>(V _ (Ne.symm (c.after n hu).1)).symm)
     have bb:(cb T1 H0).next<=(cb zC (cb T1 H0)).next:=(eh.append M).1.le
     have bg:(cb zC (cb T1 H0)).next<bI.next:=by
      have W:=(eh.append M).2;have aS:=W.2.le;rw[y]at aS;have aT:bI=cb zD (K.heap (cb zC (cb T1 H0)) (.new v b)):=by
       rw[(j5 c.aE).2.1,n,jD,jD,cb,y]
      rw[aT];simp only[K.heap,ad.bQ]at aS ⊢;omega
     rw[O]at m;have bD:iY P t.o.op a5 (cb zC (cb T1 H0)).next=D (v,b):=by rw[<-jD];exact aa
     refine Cg bD ak (m.fresh _ bb bg ax) λx bZ b0 loc aZ bn bP bT bU bV gQ bW bX bM bN bO=> ?_
     have m':=m.early bb bg ax bn bP bT bU bV gQ bW bX bM bN bO;rw[<-aI]at m';refine aH _ _ _ (c.next G s.size s.closed ab hw (ak.mono bn) a4 aO (by rw[y];exact aZ) (T1:=T1) (T2:=zC++t::zD) ⟨by rw[S,O],λu hu aj=> ?_,λu hu am=> ?_,m'⟩) aV
     ·have:=az u hu aj;by_cases e:u.i=t.i
      ·rw[e];exact an
      ·rw[V _ e];exact this
     ·have au:u.i≠t.i:=λe=>by
       have:=c.uniq G (by rw[S,O];simp at hu ⊢;exact .inr hu) e;subst this;obtain⟨bY,H,aa⟩:=am;rw[y]at aa;cases aa
      rw[V _ au];exact aA u (by rw[O];exact hu) am
    ·rw[aw]at F;cases F
   |dM v H'=>
    obtain⟨zC,zD,O⟩:=a6 (by rw[y];rfl);have n:T=(T1++zC)++t::zD:=by rw[S,O];simp
    have aY:=(c.at n).2.2.1;rcases ou aY with⟨_,aD⟩|⟨F,_⟩
    ·rw[y]at aD;have aa:=kG.congr (λx F=>(aN x F).symm) aD;have M:eh (cb T1 H0) (zC++t::zD):=by
      have:=aq;rw[S,O]at this;exact(eh.append this).2
     have a9:=c.dM;rw[n]at a9;have a8:=(rA a9 y).2;rw[O]at m;have m1:=eL.turns (zC:=zC) (zD:=t::zD) (L:=cZ listed) M (λu hu z=>by
      have ai:=j4 s.closed _ _ al hw _ (a8 u (by simp[hu]) z);refine⟨ai,?_⟩;cases bf:u.k with
      |new x b=>exact⟨x,b,rfl⟩
      |dM x H=>rw[aA u (by rw[O];simp[hu]) ⟨x,H,bf⟩]at ai;cases ai
      |_=>rw[bf]at z;cases z) m
     rw[qG (λv b h=>by rw[y]at h;cases h),y]at m1;simp only[K.heap]at m1;have a1:eh H' zD:=by have:=(eh.append M).2.2;rw[y]at this;exact this
     have bs:bI=cb zD H':=by rw[(j5 c.aE).2.1,n,jD,cb,y];rfl
     have bt:H'.next<=bI.next:=by rw[bs];exact a1.le
     rw[jD]at aa;refine yA (H:=cb zC (cb T1 H0)) (H':=H') bv m1.rel ⟨λl g1 g2=>m1.fresh l g1 af ?_,Env.le_trans bq m1.le⟩ aa ak λx bZ b0 g1 g2=> ?_
     ·cases a2:dN (cZ listed) zD H' l with
      |none=>rfl
      |some b=>have:=qF a1 a2;omega
     ·have m2:=m1.step g2 bt (λl b a2=>qF a1 a2);refine aH _ _ _ (c.next G s.size s.closed ab hw (ak.mono g2.le) a4 aO (by rw[y];exact g1) (T1:=T1++zC++[t]) (T2:=zD) ⟨by rw[n];simp,λu hu aj=> ?_,λu hu am=> ?_,?_⟩) aV
      ·by_cases e:u.i=t.i
       ·rw[e];exact an
       ·rw[V _ e];simp only[List.mem_append,List.mem_singleton]at hu;rcases hu with(hu|hu)|rfl
        ·exact az u hu aj
        ·exact j4 s.closed _ _ al hw _ (a8 u (by simp[hu]) aj)
        ·exact absurd rfl e
      ·rw[V _ (Ne.symm (c.after n hu).1)];exact aA u (by rw[O];simp[hu]) am
      ·have br:cb (T1++zC++[t]) H0=H':=by rw[jD,cb,y];rfl
       rw[br,qE (L':=cZ listed) λu hu v b R=>V _ (Ne.symm (c.after n hu).1)];exact m2
    ·rw[aw]at F;cases F
  ·rw[aw];simp only[Bool.false_eq_true,if_false];exact still (by rw[R];rfl) undef (by rw[R];exact .tuple [] [] .nil)
def NM{id:Nat}{a:Act}{w:World}(hm:P.follows .mixedOrders=X)(v:iT E P call)(c:Ctx P call ops ord eb H0 T cu bI)(u:Rel ρ0 H0 w)(n:hI E ρ0 H0.next bI.next)(y:dC ρ0 eb a)
  (s:∀ρ a m,dC ρ cu a->Step ρ0 H0 w ρ bI m->Q .normal a m):(Code.region id ops X).wp P Q a w:=by
 have k:∀j,cZ (Array.replicate ops.size U) j=false:=λj=>by
  unfold cZ;rw[Array.getD_eq_getD_getElem?];by_cases h:j<ops.size<;>simp[h]
 refine wp_region_any hm (c.any (ρ0:=ρ0) (w0:=w.drew) v n.le (λρ a m q e=>s ρ a m q ?_) _ _ _ _ ⟨by simp,λi o _ x=>absurd x (by rw[k];simp),ρ0,[],T,rfl,by simp,λt _ _=>k _,?_,eb,y,rfl,λd=> ?_⟩ ?_)
 ·exact⟨e.le,e.next,e.aY,e.rel,e.os,e.tape,e.output,e.size,e.frame,e.own,e.ro⟩
 ·have aF:dN (cZ (Array.replicate ops.size U)) T (cb [] H0)=λ_=>none:=by
   have:∀(T:List bC) (H:ad),dN (cZ (Array.replicate ops.size U)) T H=λ_=>none:=by
    intro T
    induction T with
    |nil=>intro H;rfl
    |cons t T p=>
     intro H
     funext l
     unfold dN;split
     ·rw[p,k];simp
     ·rw[p]
   exact this T _
  rw[aF];exact eL.start u.drew n.new
 ·rw[si λt _ _=>k _]
 ·refine Nat.le_trans List.countP_le_length ?_;simp
end
def hl(P:Program)(call:ax)(ops:Array Oper):List Oper->a7->ad->Option (a7×ad)
 |[],ae,H=>D (ae,H)
 |o::os,ae,H=>match hc P call ops o ae H with
  |none=>Z
  |some k=>match ae.put o.dst k.val with
   |none=>Z
   |some a6=>hl P call ops os a6 (k.heap H)
def FW(o:Oper):Bool:=match cls o.op with
 | .write=>X
 | .call=>X
 |_=>U
def need(m:Nat)(done:Nat):List Nat->List Nat
 |[]=>[]
 |j::a=>if m.testBit j&& !done.testBit j then j::need m done a else need m done a
def DG(done:Nat):List Nat->Nat
 |[]=>done
 |j::a=>DG (done|||2^j) a
def vu(ms all:List Nat):List (Nat×Oper)->Nat->List Nat
 |[],done=>need (2^all.length-1) done all
 |(i,o)::is,done=>if FW o&& !done.testBit i then
   (let a:=need (ms[i]?.getD 0) done all
    a++i::vu ms all is (DG done a|||2^i))
  else vu ms all is done
def Fw:Nat->List Oper->List (Nat×Oper)
 |_,[]=>[]
 |i,o::os=>(i,o)::Fw (i+1) os
def order(ops:Array Oper):List Nat:=vu (dx ops) (List.range ops.size) (Fw 0 ops.toList) 0
def e6(P:Program)(call:ax)(ops:Array Oper)(draw:Bool)(ae:a7)(H:ad):Option (a7×ad):=
 match draw with
 |false=>hl P call ops ops.toList ae H
 |true=>match canRun P call ops (order ops) ae H with
  |none=>Z
  |some (T,a6,H')=>match iH (dx ops) T []with
   |false=>Z
   |true=>match kD P (dx ops) (tied ops (dx ops) (order ops)) T H T with
    |false=>Z
    |true=>D (a6,H')
def jL:Code->Bool
 | .region _ ops X=>oJ ops (dx ops) (order ops)
 | .seq a b=>jL a&&jL b
 | .cond _ a b=>jL a&&jL b
 | .block _ b=>jL b
 | .loop b=>jL b
 |_=>X
inductive aJ where
 |normal
 |exit (id:Nat)
 |ret
def aJ.ui:aJ->Exit
 | .normal=> .normal
 | .exit id=> .exit id
 | .ret=> .ret
abbrev ri:=Array Oper->Bool->a7->ad->Option (a7×ad)
def iter(f:a7->ad->Option (aJ×a7×ad)):Nat->a7->ad->Option (aJ×a7×ad)
 |0,_,_=>Z
 |n+1,ae,H=>match f ae H with
  |some (.normal,a6,H')=>iter f n a6 H'
  |r=>r
def cx(hh:ri)(N:Nat):Code->a7->ad->Option (aJ×a7×ad)
 | .skip,ae,H=>D (.normal,ae,H)
 | .region _ ops d,ae,H=>match hh ops d ae H with
  |some (a6,H')=>D (.normal,a6,H')
  |none=>Z
 | .seq a b,ae,H=>match cx hh N a ae H with
  |some (.normal,a6,H')=>cx hh N b a6 H'
  |r=>r
 | .cond c a b,ae,H=>match b0 ae c with
  |some (.bool X)=>cx hh N a ae H
  |some (.bool U)=>cx hh N b ae H
  |_=>Z
 | .block id b,ae,H=>match cx hh N b ae H with
  |some (.exit e,a6,H')=>if e=id then D (.normal,a6,H')else D (.exit e,a6,H')
  |r=>r
 | .loop b,ae,H=>iter (λae H=>cx hh N b ae H) N ae H
 | .exit id,ae,H=>D (.exit id,ae,H)
 | .ret,ae,H=>D (.ret,ae,H)
 | .label _,ae,H=>D (.normal,ae,H)
 |_,_,_=>Z
def a7.qt(t:bk aa):Nat->List aa->bk aa
 |_,[]=>t
 |i,v::a=>a7.qt (bk.put v (i+1) t i) (i+1) a
def a7.enter(n:Nat)(args:List aa):a7:=⟨a7.qt .leaf 0 args,args.length+(n-args.length)⟩
def n9(P:Program)(ae:a7)(H:ad):ResultVar->Option aa
 | .tmp t=>D (ae.get t)
 | .cell a t=>al P H t (ae.get a)
def gZ(P:Program)(ae:a7)(H:ad):List ResultVar->Option (List aa)
 |[]=>D []
 |r::rs=>match n9 P ae H r,gZ P ae H rs with
  |some v,D a=>D (v::a)
  |_,_=>Z
def lx:List aa->aa
 |[v]=>v
 |a=> .tuple a
def b6(P:Program)(aw:ax)(N:Nat):Nat->ax
 |0,_,_,_=>Z
 |n+1,f,args,H=>match aw f args H with
 |some r=>D r
 |none=>match P.funcs[f]? with
  |none=>Z
  |some fn=>match fn.body with
   |none=>Z
   |some c=>match cx (e6 P (b6 P aw N n)) N c (a7.enter fn.ntmps args) H with
    |none=>Z
    |some (ex,ae,H')=>match ex with
     | .exit _=>Z
     |_=>match gZ P ae H' fn.results.toList with
      |none=>Z
      |some a=>D (lx a,H')
section
variable {E:Env}{P:Program}{aw:ax}{call:ax}{hh:ri}{N:Nat}
def v8{ops:Array Oper}:∀{os:List Oper} {ae a6:a7} {H H':ad},hl P call ops os ae H=D (a6,H')->H.next<=H'.next
 |[],ae,a6,H,H',h=>by
  simp only[hl,aS,bT]at h;obtain⟨rfl,rfl⟩:=h;exact bf _
 |o::os,ae,a6,H,H',h=>by
  simp only[hl]at h;split at h
  ·cases h
  ·rename_i k a;split at h
   ·cases h
   ·exact Nat.le_trans (uT a) (v8 h)
def tx(hh:ri):Prop:=∀ops d ae H a6 H',hh ops d ae H=D (a6,H')->H.next<=H'.next
def C7:tx (e6 P call):=by
 intro ops d ae H a6 H' h;unfold e6 at h;split at h
 ·exact v8 h
 ·split at h
  ·cases h
  ·rename_i T c H1 a;split at h
   ·cases h
   ·split at h
    ·cases h
    ·simp only[aS,bT]at h;obtain⟨rfl,rfl⟩:=h;rw[(j5 a).2.1];exact(pS a).le
def rM{f:a7->ad->Option (aJ×a7×ad)}(a:∀ae H ex a6 H',f ae H=D (ex,a6,H')->H.next<=H'.next):∀{n:Nat} {ae:a7} {H:ad} {ex:aJ} {a6:a7} {H':ad},
  iter f n ae H=D (ex,a6,H')->H.next<=H'.next
 |0,_,_,_,_,_,h=>by cases h
 |n+1,ae,H,ex,a6,H',h=>by
  simp only[iter]at h;split at h
  ·rename_i d H1 c;exact Nat.le_trans (a _ _ _ _ _ c) (rM a h)
  ·exact a _ _ _ _ _ h
def yD(n:tx hh):∀(c:Code) {ae:a7} {H:ad} {ex:aJ} {a6:a7} {H':ad},cx hh N c ae H=D (ex,a6,H')->H.next<=H'.next:=by
 intro c
 induction c with
 |skip=>intro ae H ex a6 H' h;simp only[cx,aS,bT]at h;obtain⟨_,_,rfl⟩:=h;exact bf _
 |region id ops d=>
  intro ae H ex a6 H' h;simp only[cx]at h;split at h
  ·rename_i m H1 e;simp only[aS,bT]at h;obtain⟨_,_,rfl⟩:=h;exact n _ _ _ _ _ _ e
  ·cases h
 |seq a b j k=>
  intro ae H ex a6 H' h;simp only[cx]at h;split at h
  ·rename_i m H1 e;exact Nat.le_trans (j e) (k h)
  ·exact j h
 |cond c a b j k=>
  intro ae H ex a6 H' h;simp only[cx]at h;split at h
  ·exact j h
  ·exact k h
  ·cases h
 |block id b i=>
  intro ae H ex a6 H' h;simp only[cx]at h;split at h
  ·rename_i o m H1 e;have:=i e;split at h<;>(simp only[aS,bT]at h;obtain⟨_,_,rfl⟩:=h;exact this)
  ·exact i h
 |loop b i=>
  intro ae H ex a6 H' h;simp only[cx]at h;exact rM (λ_ _ _ _ _ h=>i h) h
 |exit id=>intro ae H ex a6 H' h;simp only[cx,aS,bT]at h;obtain⟨_,_,rfl⟩:=h;exact bf _
 |ret=>intro ae H ex a6 H' h;simp only[cx,aS,bT]at h;obtain⟨_,_,rfl⟩:=h;exact bf _
 |label l=>intro ae H ex a6 H' h;simp only[cx,aS,bT]at h;obtain⟨_,_,rfl⟩:=h;exact bf _
 |goto l=>intro ae H ex a6 H' h;cases h
 |scope b i=>intro ae H ex a6 H' h;cases h
 |rangeFunc f p a b j k=>intro ae H ex a6 H' h;cases h
 |refuse y=>intro ae H ex a6 H' h;cases h
def DF(u:iT E P call){ops:Array Oper}{Q:Exit->Act->World->Prop}:∀{os:List Oper} {ae a6:a7} {H H':ad} {ρ:Env} {w:World} {a:Act},hl P call ops os ae H=D (a6,H')->
  Rel ρ H w->hI E ρ H.next H'.next->dC ρ ae a->(∀d bR c,dC d a6 bR->Step ρ H w d H' c->Q .normal bR c)->wpList P ops Q os a w
 |[],ae,a6,H,H',ρ,w,a,h,e,_,i,q=>by
  simp only[hl,aS,bT]at h;obtain⟨rfl,rfl⟩:=h;exact q ρ a w i (.refl e)
 |o::os,ae,a6,H,H',ρ,w,a,h,e,s,i,q=>by
  simp only[hl]at h;split at h
  ·cases h
  ·rename_i k z;split at h
   ·cases h
   ·rename_i ag B;have A:=v8 h;have ah:=uT z;have go:∀x c d,ba d k.val x->Step ρ H w d (k.heap H) c->wpList P ops Q os (a.put o.dst x) c:=λx c d m az=>
     DF u h az.rel (s.after az) ((i.mono az.le).put B m) λaa a2 W n p=>q aa a2 W n (az.trans p)
    unfold wpList;rw[xF i o];rcases ou z with⟨hw,j⟩|⟨hw,rfl⟩
    ·rw[hw];simp only[if_true];refine .inl ?_;cases k with
     |skip=>exact j.elim
     |pure v=>exact CM j i λx m=>go x w ρ m (.refl e)
     |read v=>exact C5 e j i λx m=>go x w ρ m (.refl e)
     |new v b=>
      have y:ρ H.next=none:=s.new _ (bf _) (by simp only[K.heap,ad.bQ]at A;omega)
      refine Cg j i y λx c d loc aZ M N O R S gQ T V F G L=>go x c d aZ ?_
      have m0:eL ρ H w (H.next+1) (λ_=>Z) ρ H w:=eL.start e λl n p=>by
       have:l=H.next:=af
       rw[this];exact y
      have m1:=m0.early (bf _) af rfl M N O R S gQ T V F G L;exact(m1.EZ (b:=b) (by simp)).done rfl
     |dM v ab=>
      exact yA u e (s.left A) j i λx c d n p=>go x c d n p
    ·rw[hw];simp only[Bool.false_eq_true,if_false];exact go undef w ρ (.tuple [] [] .nil) (.refl e)
def xb(E:Env)(P:Program)(hh:ri):Prop:=∀(id:Nat) (ops:Array Oper) (d:Bool) (ae:a7) (H:ad) (a6:a7) (H':ad),hh ops d ae H=D (a6,H')->(d=X->oJ ops (dx ops) (order ops)=X)->∀(ρ:Env) (w:World) (a:Act) (Q:Exit->Act->World->Prop),Rel ρ H w->hI E ρ H.next H'.next->dC ρ ae a->(∀e bR c,dC e a6 bR->Step ρ H w e H' c->Q .normal bR c)->(Code.region id ops d).wp P Q a w
def C8(hm:P.follows .mixedOrders=X)(i:iT E P call):xb E P (e6 P call):=by
 intro id ops d ae H a6 H' h m ρ w a Q e j k c;unfold e6 at h;split at h
 ·exact wp_region_list (DF i h e j k c)
 ·split at h
  ·cases h
  ·rename_i T p H1 l;split at h
   ·cases h
   ·rename_i n;split at h
    ·cases h
    ·rename_i o;simp only[aS,bT]at h;obtain⟨rfl,rfl⟩:=h;exact NM hm i ⟨l,m rfl,n,o⟩ e j k c
def NN{c:Code}{Q:Exit->Act->World->Prop}(p:Nat->Act->World->Prop)(round:∀n a w,p n a w->∃m,n=m+1/\c.wp P (Exit.then (p m) Q) a w){n:Nat}{a:Act}{w:World}(z:p n a w):(Code.loop c).wp P Q a w:=by
 intro b k cs;have key:∀n a w,p n a w->∃e bR q,Q e bR q/\Arrives P (lone (b.at a (.code c:: .inLoop c::k)) cs w) b k cs e bR q:=by
  intro n
  induction n with
  |zero=>intro a w h;obtain⟨m,hm,_⟩:=round 0 a w h;omega
  |succ n A=>
   intro a w h;obtain⟨m,hm,hw⟩:=round _ a w h;obtain rfl:m=n:=af;obtain⟨e,j,o,i,d⟩:=hw b (.inLoop c::k) cs;cases e with
   |normal=>
    obtain⟨u,s,B,y,v⟩:=A j o i;exact⟨u,s,B,y,.of_steps (Steps.trans d (.one step_inLoop)) v⟩
   |exit id=>exact⟨_,j,o,i,.pass (x:= .inLoop c) rfl (λ_ _=> .inl (by simp)) d⟩
   |goto l=>exact⟨_,j,o,i,.pass (x:= .inLoop c) rfl (λ_ _=> .inl (by simp)) d⟩
   |ret=>exact⟨_,j,o,i,.pass (x:= .inLoop c) rfl (λ_ _=> .inl (by simp)) d⟩
   |panic E=>exact⟨_,j,o,i,.pass (x:= .inLoop c) rfl (λ_ _=> .inl (by simp)) d⟩
   |outgrown=>exact⟨_,j,o,i,.pass (x:= .inLoop c) rfl (λ_ _=> .inl (by simp)) d⟩
 obtain⟨e,bR,q,i,d⟩:=key _ a w z;exact⟨e,bR,q,i,.of_steps (.one step_loop) d⟩
def tj(E:Env)(P:Program)(c:Code)(f:a7->ad->Option (aJ×a7×ad)):Prop:=∀(ae:a7) (H:ad) (ex:aJ) (a6:a7) (H':ad),f ae H=D (ex,a6,H')->∀(ρ:Env) (w:World) (a:Act) (Q:Exit->Act->World->Prop),Rel ρ H w->hI E ρ H.next H'.next->dC ρ ae a->(∀e bR d,dC e a6 bR->Step ρ H w e H' d->Q ex.ui bR d)->c.wp P Q a w
def Ij{c:Code}{f:a7->ad->Option (aJ×a7×ad)}(l:tj E P c f)(o:∀ae H ex a6 H',f ae H=D (ex,a6,H')->H.next<=H'.next)(n:Nat):tj E P (.loop c) (iter f n):=by
 intro ae H ex a6 H' h ρ w a Q y m B x;refine NN (n:=n) (λn aQ i=>∃j H1 e,iter f n j H1=D (ex,a6,H')/\Step ρ H w e H1 i/\dC e j aQ) ?_ ⟨ae,H,ρ,h,.refl y,B⟩;rintro n aQ i ⟨j,H1,e,d,az,p⟩;cases n with
 |zero=>cases d
 |succ n=>
  refine⟨n,rfl,?_⟩;have hle:=rM o d;simp only[iter]at d;split at d
  ·rename_i u s v;have z:=rM o d;refine l _ _ _ _ _ v e i aQ _ az.rel (hI.left (hI.after m az) z) p λk a2 q g1 g2=> ?_
   exact⟨u,s,k,d,az.trans g2,g1⟩
  ·rename_i A;refine l _ _ _ _ _ d e i aQ _ az.rel (hI.after m az) p λk a2 q g1 g2=> ?_
   have:=x k a2 q g1 (az.trans g2);cases ex with
   |normal=>exact absurd d (A _ _)
   |exit id=>exact this
   |ret=>exact this
def yF(B:tx hh)(G:xb E P hh):∀(c:Code),jL c=X->tj E P c (cx hh N c):=by
 intro c
 induction c with
 |skip=>
  intro _ ae H ex a6 H' h ρ w a Q j k e i;simp only[cx,aS,bT]at h;obtain⟨rfl,rfl,rfl⟩:=h;exact wp_skip (i ρ a w e (.refl j))
 |region id ops d=>
  intro aF ae H ex a6 H' h ρ w a Q j k e i;simp only[cx]at h;split at h
  ·rename_i A H1 m;simp only[aS,bT]at h;obtain⟨rfl,rfl,rfl⟩:=h;exact G id ops d ae H _ _ m (λF=>by subst F;exact aF) ρ w a Q j k e i
  ·cases h
 |seq x y q s=>
  intro aF ae H ex a6 H' h ρ w a Q j k e i;simp only[jL,Bool.and_eq_true]at aF;simp only[cx]at h;refine wp_seq ?_;split at h
  ·rename_i A H1 m;have hle:=yD B y h;refine q aF.1 _ _ _ _ _ m ρ w a _ j (k.left hle) e λo aQ n g1 g2=> ?_
   exact s aF.2 _ _ _ _ _ h o n aQ Q g2.rel (k.after g2) g1 λM a2 L g3 g4=>i M a2 L g3 (g2.trans g4)
  ·rename_i v;refine q aF.1 _ _ _ _ _ h ρ w a _ j k e λo aQ n g1 g2=> ?_
   have:=i o aQ n g1 g2;cases ex with
   |normal=>exact absurd h (v _ _)
   |exit id=>exact this
   |ret=>exact this
 |cond c x y q s=>
  intro aF ae H ex a6 H' h ρ w a Q j k e i;simp only[jL,Bool.and_eq_true]at aF;simp only[cx]at h;split at h
  ·rename_i u;have m:=df e u;refine wp_cond_true (by generalize a.eval c=z at m;cases m;rfl) ?_;exact q aF.1 _ _ _ _ _ h ρ w a Q j k e i
  ·rename_i u;have m:=df e u;refine wp_cond_false (by generalize a.eval c=z at m;cases m;rfl) ?_;exact s aF.2 _ _ _ _ _ h ρ w a Q j k e i
  ·cases h
 |block id b p=>
  intro aF ae H ex a6 H' h ρ w a Q j k e i;simp only[cx]at h;refine wp_block ?_;split at h
  ·rename_i K A H1 m;split at h
   ·rename_i hid;simp only[aS,bT]at h;obtain⟨rfl,rfl,rfl⟩:=h;refine p aF _ _ _ _ _ m ρ w a _ j k e λo aQ n g1 g2=> ?_
    have:=i o aQ n g1 g2;simp only[aJ.ui,Exit.inBlock,hid,if_true];exact this
   ·rename_i hid;simp only[aS,bT]at h;obtain⟨rfl,rfl,rfl⟩:=h;refine p aF _ _ _ _ _ m ρ w a _ j k e λo aQ n g1 g2=> ?_
    have:=i o aQ n g1 g2;simp only[aJ.ui,Exit.inBlock,hid,if_false];exact this
  ·rename_i v;refine p aF _ _ _ _ _ h ρ w a _ j k e λo aQ n g1 g2=> ?_
   have:=i o aQ n g1 g2;cases ex with
   |normal=>exact this
   |exit K=>exact absurd h (v _ _ _)
   |ret=>exact this
 |loop b p=>
  intro aF ae H ex a6 H' h ρ w a Q j k e i;simp only[cx]at h;exact Ij (p aF) (λ_ _ _ _ _ h=>yD B b h) N ae H ex a6 H' h ρ w a Q j k e i
 |exit id=>
  intro _ ae H ex a6 H' h ρ w a Q j k e i;simp only[cx,aS,bT]at h;obtain⟨rfl,rfl,rfl⟩:=h;exact wp_exit (i ρ a w e (.refl j))
 |ret=>
  intro _ ae H ex a6 H' h ρ w a Q j k e i;simp only[cx,aS,bT]at h;obtain⟨rfl,rfl,rfl⟩:=h;exact wp_ret (i ρ a w e (.refl j))
 |label l=>
  intro _ ae H ex a6 H' h ρ w a Q j k e i;simp only[cx,aS,bT]at h;obtain⟨rfl,rfl,rfl⟩:=h;exact wp_label (i ρ a w e (.refl j))
 |goto l=>intro _ ae H ex a6 H' h;cases h
 |scope b p=>intro _ ae H ex a6 H' h;cases h
 |rangeFunc f O a b q s=>intro _ ae H ex a6 H' h;cases h
 |refuse y=>intro _ ae H ex a6 H' h;cases h
def vn:∀(args:List aa) (t:bk aa) (i d:Nat),(a7.qt t i args).get d=if i<=d/\d<i+args.length then args[d-i]? else t.get d
 |[],t,i,d=>by simp only[a7.qt,List.length_nil];rw[if_neg af]
 |v::e,t,i,d=>by
  simp only[a7.qt];rw[vn e];by_cases a:i+1<=d/\d<i+1+e.length
  ·rw[if_pos a,if_pos (by simp;omega),show d-i=(d-(i+1))+1 by omega];simp
  ·rw[if_neg a];by_cases c:d=i
   ·subst c;rw[bk.p_ _ _ _ _ af,if_pos (by simp)];simp
   ·rw[bk.p9 _ _ _ _ _ (Ne.symm c),if_neg (by simp;omega)]
def yB{ρ:Env}{args:List aa}{xs:List Value}(h:bo ρ args xs)(n:Nat):dC ρ (a7.enter n args) {tmps:=xs.toArray++Array.replicate (n-xs.toArray.size) undef,defers:=[]}:=by
 have i:=h.length;refine⟨by simp[a7.enter,i],λd=> ?_,rfl⟩;unfold a7.get a7.enter;simp only
 rw[vn];rw[Array.getD_eq_getD_getElem?];by_cases e:d<args.length
 ·rw[if_pos af];obtain⟨v,c⟩:∃v,args[d]? =D v:=⟨args[d],by simp[e]⟩;obtain⟨x,k,j⟩:=h.get d v c;have a:(xs.toArray++Array.replicate (n-xs.toArray.size) undef)[d]? =D x:=by
   rw[Array.getElem?_append_left (by simp;omega)];simpa using k
  rw[a];simp only[Nat.sub_zero,c,Option.getD_some];exact j
 ·rw[if_neg af];have a:((xs.toArray++Array.replicate (n-xs.toArray.size) undef)[d]?).getD undef=undef:=by
   rw[Array.getElem?_append_right (by simp;omega)];simp only[Array.getElem?_replicate];split<;>rfl
  rw[a,bk.p5];exact .tuple [] [] .nil
def qN(tmps:Array Value):ResultVar->Sem Value
 | .tmp t=>pure (tmps.getD t undef)
 | .cell b t=>do loadVar t (<-asAddr (tmps.getD b undef))
def Gz{ρ:Env}{H:ad}{w:World}{ae:a7}{a:Act}(m:Rel ρ H w)(e:dC ρ ae a){r:ResultVar}{v:aa}(h:n9 P ae H r=D v):
  ∃x,(qN a.tmps r).run P w= .ok x w/\ba ρ v x:=by
 cases r with
 |tmp t=>
  simp only[n9,aS]at h;subst h;exact⟨_,rfl,e.get t⟩
 |cell b t=>
  simp only[n9]at h;obtain⟨x,j,k⟩:=tJ m h (e.get b);refine⟨x,?_,k⟩;have d:=e.get b;simp only[qN];generalize a.tmps.getD b undef=z at d j ⊢;have aF:∃l i c,ae.get b= .ptr l i c:=by
   generalize ae.get b=u at h;unfold al at h;cases u<;>first|exact⟨_,_,_,rfl⟩|(exfalso;simp at h)
  obtain⟨l,i,c,aF⟩:=aF;rw[aF]at d;cases d;simpa [Instr.loadAt,Instr.sureAddr,asAddr]using j
def xw{ρ:Env}{H:ad}{w:World}{ae:a7}{a:Act}(d:Rel ρ H w)(e:dC ρ ae a):∀{rs:List ResultVar} {c:List aa},gZ P ae H rs=D c->
  ∃xs:List Value,(rs.mapM (qN a.tmps)).run P w= .ok xs w/\bo ρ c xs
 |[],c,h=>by simp only[gZ,aS]at h;subst h;exact⟨[],by simp[Sem.run_pure],.nil⟩
 |r::rs,c,h=>by
  simp only[gZ]at h;split at h
  ·rename_i v o m n;simp only[aS]at h;subst h;obtain⟨x,i,j⟩:=Gz d e m;obtain⟨xs,k,l⟩:=xw d e n;refine⟨x::xs,?_,.cons _ _ _ _ j l⟩;rw[List.mapM_cons];simp only[Sem.run_bind,Result.andThen_ok,Sem.run_pure,i,k]
  ·cases h
def JQ(fn:Func)(tmps:Array Value):results fn tmps=(do
  let a<-fn.results.mapM (qN tmps)
  pure (if h:a.size=1 then a[0]else .tuple a)):=by
 unfold results
 congr 1
def Db{ρ:Env}{H:ad}{w:World}{ae:a7}{a:Act}(m:Rel ρ H w)(n:dC ρ ae a){fn:Func}{d:List aa}(h:gZ P ae H fn.results.toList=D d):
  ∃x,(results fn a.tmps).run P w= .ok x w/\ba ρ (lx d) x:=by
 obtain⟨xs,e,i⟩:=xw m n h;have hm:(fn.results.mapM (qN a.tmps)).run P w= .ok xs.toArray w:=by
  rw[Array.mapM_eq_mapM_toList];simp only[Sem.run_map,e,Result.andThen_ok]
 refine⟨if h:xs.toArray.size=1 then xs.toArray[0]else .tuple xs.toArray,?_,?_⟩
 ·rw[JQ];simp only[Sem.run_bind,hm,Result.andThen_ok,Sem.run_pure]
 ·cases i with
  |nil=>exact .tuple [] [] .nil
  |cons v x p u c j=>
   cases j with
   |nil=>exact c
   |cons o s q y k l=>
    simp only[lx];rw[dif_neg (by simp)];exact .tuple _ _ (.cons _ _ _ _ c (.cons _ _ _ _ k l))
structure mr(P:Program):Prop where
 mixed:P.follows .mixedOrders=true
 names:∀fn∈P.funcs,(fn.name== "runtime.NumGoroutine")=false
 CJ:∀(f:Nat) (fn:Func) (c:Code),P.funcs[f]? =some fn->fn.body=some c->jL c=true
def yG(a:mr P)(l:iT E P aw):∀n,iT E P (b6 P aw N n)
 |0=>λg args H v H' h=>by cases h
 |n+1=>by
  intro g args H v H' h ρ w xs m p o B next q
  simp only[b6]at h;split at h
  ·rename_i r K;cases h;exact l g args H v H' K ρ w xs m p o B next q
  split at h
  ·cases h
  ·rename_i fn d;split at h
   ·cases h
   ·rename_i c i;split at h
    ·cases h
    ·rename_i ex ae H1 z;have O:=yG a l n;have y:=yF (N:=N) C7 (C8 a.mixed O) c (a.CJ _ _ _ d i);have F:(fn.name== "runtime.NumGoroutine")=false:=a.names fn (Array.mem_of_getElem? d);have L:(callFunc g xs.toArray).run P w= .ok (.enter g xs.toArray) w:=by
      unfold callFunc;simp[d,i];intro A;simp[A]at F
     unfold lr;rw[L];simp only
     split at h
     ·cases h
     ·rename_i G;split at h
      ·cases h
      ·rename_i S M;simp only[aS,bT]at h;obtain⟨rfl,rfl⟩:=h;refine calls_of_wp d i (y _ _ _ _ _ z ρ w _ _ m p (yB o fn.ntmps) λR bR Q e k=> ?_);obtain⟨x,j,u⟩:=Db k.rel e M;have s:=q x Q R u k;cases ex with
       |normal=>exact⟨e.none,x,j,s⟩
       |ret=>exact⟨e.none,x,j,s⟩
       |exit id=>exact absurd rfl (G id)
end
section
variable {E:Env}{P:Program}{aw:ax}
def mo(P:Program)(aw:ax)(f:Nat)(args:List aa)(H:ad)(r:aa×ad):Prop:=∃k,∀N,k<=N->∀n,k<=n->b6 P aw N n f args H=D r
def mo.uniq{f:Nat}{args:List aa}{H:ad}{r s:aa×ad}(h:mo P aw f args H r)(aX:mo P aw f args H s):r=s:=by
 obtain⟨k,d⟩:=h;obtain⟨j,c⟩:=aX;have a:=d (max k j) (Nat.le_max_left ..) (max k j) (Nat.le_max_left ..);rw[c (max k j) (Nat.le_max_right ..) (max k j) (Nat.le_max_right ..)]at a;exact(Option.some.inj a).symm
open Classical in
noncomputable def aA(P:Program)(aw:ax):ax:=λf args H=>if h:∃r,mo P aw f args H r then D h.choose else Z
def yI{f:Nat}{args:List aa}{H:ad}{r:aa×ad}(h:aA P aw f args H=D r):mo P aw f args H r:=by
 unfold aA at h;split at h
 ·rename_i a;rw[<-Option.some.inj h];exact a.choose_spec
 ·cases h
def BG{f:Nat}{args:List aa}{H:ad}{r:aa×ad}(h:mo P aw f args H r):aA P aw f args H=D r:=by
 unfold aA;have a:∃r,mo P aw f args H r:=⟨r,h⟩;rw[dif_pos a];exact congrArg D (a.choose_spec.uniq h)
def Hk(c:mr P)(a:iT E P aw):iT E P (aA P aw):=by
 intro g args H v H' h;obtain⟨k,d⟩:=yI h;exact yG c a k g args H v H' (d k (bf _) k (bf _))
def MZ{o:Op}{ae:a7}{H:ad}{x:K}(h:step1 P (aA P aw) o ae H=D x):∃k,∀N,k<=N->∀n,k<=n->step1 P (b6 P aw N n) o ae H=D x:=by
 unfold step1 at h;unfold step1;split at h
 ·exact⟨0,λ_ _ _ _=>h⟩
 ·exact⟨0,λ_ _ _ _=>h⟩
 ·exact⟨0,λ_ _ _ _=>h⟩
 ·exact⟨0,λ_ _ _ _=>h⟩
 ·exact⟨0,λ_ _ _ _=>h⟩
 ·split at h
  ·split at h
   ·rename_i g j d;cases a:aA P aw g j H with
    |none=>rw[a]at h;cases h
    |some r=>
     obtain⟨k,e⟩:=yI a;refine⟨k,λN c n i=> ?_⟩;rw[a]at h;simp only[d,e N c n i];exact h
   ·cases h
  ·cases h
def Bb{ops:Array Oper}{o:Oper}{ae:a7}{H:ad}{x:K}(h:hc P (aA P aw) ops o ae H=D x):∃k,∀N,k<=N->∀n,k<=n->hc P (b6 P aw N n) ops o ae H=D x:=by
 unfold hc at h;unfold hc;split at h
 ·rename_i hw;obtain⟨k,c⟩:=MZ h;exact⟨k,λN a n d=>c N a n d⟩
 ·exact⟨0,λ_ _ _ _=>h⟩
def DD{ops:Array Oper}:∀{os:List Oper} {ae:a7} {H:ad} {x:a7×ad},hl P (aA P aw) ops os ae H=D x->∃k,∀N,k<=N->∀n,k<=n->hl P (b6 P aw N n) ops os ae H=D x
 |[],ae,H,x,h=>⟨0,λ_ _ _ _=>h⟩
 |o::os,ae,H,x,h=>by
  simp only[hl]at h;split at h
  ·cases h
  ·rename_i y e;split at h
   ·cases h
   ·rename_i a6 a;obtain⟨k,d⟩:=Bb e;obtain⟨j,c⟩:=DD h;refine⟨max k j,λN i n l=> ?_⟩;simp only[hl,d N af n af,a,c N af n af]
def yk{ops:Array Oper}:∀{is:List Nat} {ae:a7} {H:ad} {x:List bC×a7×ad},canRun P (aA P aw) ops is ae H=D x->∃k,∀N,k<=N->∀n,k<=n->canRun P (b6 P aw N n) ops is ae H=D x
 |[],ae,H,x,h=>⟨0,λ_ _ _ _=>h⟩
 |i::is,ae,H,x,h=>by
  simp only[canRun]at h;split at h
  ·cases h
  ·rename_i o l;split at h
   ·cases h
   ·rename_i y m;split at h
    ·cases h
    ·rename_i a6 a;split at h
     ·cases h
     ·rename_i T cu bI c;obtain⟨k,e⟩:=Bb m;obtain⟨j,d⟩:=yk c;refine⟨max k j,λN p n q=> ?_⟩;simp only[canRun,l,e N af n af,a,d N af n af];exact h
def JM{ops:Array Oper}{d:Bool}{ae:a7}{H:ad}{x:a7×ad}(h:e6 P (aA P aw) ops d ae H=D x):∃k,∀N,k<=N->∀n,k<=n->e6 P (b6 P aw N n) ops d ae H=D x:=by
 unfold e6 at h;unfold e6;split at h
 ·obtain⟨k,c⟩:=DD h;exact⟨k,λN a n e=>c N a n e⟩
 ·split at h
  ·cases h
  ·rename_i T a6 H' i;obtain⟨k,c⟩:=yk i;refine⟨k,λN a n e=> ?_⟩;simp only[c N a n e];exact h
def A7{f:a7->ad->Option (aJ×a7×ad)}:∀{n m:Nat} {ae:a7} {H:ad} {x:aJ×a7×ad},iter f n ae H=D x->n<=m->iter f m ae H=D x
 |0,_,_,_,_,h,_=>by cases h
 |n+1,0,_,_,_,_,hm=>af
 |n+1,m+1,ae,H,x,h,hm=>by
  simp only[iter]at h ⊢;split at h
  ·rename_i a6 H' he;exact A7 h af
  ·exact h
def A6{f:a7->ad->Option (aJ×a7×ad)}{g:Nat->Nat->a7->ad->Option (aJ×a7×ad)}(a:∀ae H x,f ae H=D x->∃k,∀N,k<=N->∀n,k<=n->g N n ae H=D x):
  ∀{M:Nat} {ae:a7} {H:ad} {x:aJ×a7×ad},iter f M ae H=D x->∃k,∀N,k<=N->∀n,k<=n->iter (g N n) M ae H=D x
 |0,_,_,_,h=>by cases h
 |M+1,ae,H,x,h=>by
  simp only[iter]at h;split at h
  ·rename_i a6 H' he;obtain⟨k,c⟩:=a _ _ _ he;obtain⟨j,i⟩:=A6 a h;refine⟨max k j,λN d n e=> ?_⟩;simp only[iter,c N af n af];exact i N af n af
  ·rename_i l;obtain⟨k,c⟩:=a _ _ _ h;refine⟨k,λN d n e=> ?_⟩;simp only[iter,c N d n e];split
   ·rename_i a6 H' he;cases he;exact absurd h (l _ _)
   ·rfl
def Hi{M:Nat}:∀(c:Code) {ae:a7} {H:ad} {x:aJ×a7×ad},cx (e6 P (aA P aw)) M c ae H=D x->∃k,∀N,k<=N->∀n,k<=n->cx (e6 P (b6 P aw N n)) N c ae H=D x:=by
 intro c
 induction c with
 |skip=>intro ae H x h;exact⟨0,λ_ _ _ _=>h⟩
 |region id ops d=>
  intro ae H x h;simp only[cx]at h;split at h
  ·rename_i w H1 o;obtain⟨k,e⟩:=JM o;refine⟨k,λN i n m=> ?_⟩;simp only[cx,e N i n m];exact h
  ·cases h
 |seq a b q s=>
  intro ae H x h;simp only[cx]at h;split at h
  ·rename_i w H1 o;obtain⟨k,e⟩:=q o;obtain⟨j,z⟩:=s h;refine⟨max k j,λN i n m=> ?_⟩;simp only[cx,e N af n af,z N af n af]
  ·rename_i v;obtain⟨k,e⟩:=q h;refine⟨k,λN i n m=> ?_⟩;simp only[cx,e N i n m];split
   ·rename_i a6 H' he;cases he;exact absurd h (v _ _)
   ·rfl
 |cond c a b q s=>
  intro ae H x h;simp only[cx]at h;split at h
  ·rename_i u;obtain⟨k,e⟩:=q h;refine⟨k,λN i n m=> ?_⟩;simp only[cx,u,e N i n m]
  ·rename_i u;obtain⟨k,e⟩:=s h;refine⟨k,λN i n m=> ?_⟩;simp only[cx,u,e N i n m]
  ·cases h
 |block id b p=>
  intro ae H x h;simp only[cx]at h;split at h
  ·rename_i B w H1 o;obtain⟨k,e⟩:=p o;refine⟨k,λN i n m=> ?_⟩;simp only[cx,e N i n m];exact h
  ·rename_i v;obtain⟨k,e⟩:=p h;refine⟨k,λN i n m=> ?_⟩;simp only[cx,e N i n m];split
   ·rename_i B a6 H' he;cases he;exact absurd h (v _ _ _)
   ·rfl
 |loop b p=>
  intro ae H x h;simp only[cx]at h;obtain⟨k,e⟩:=A6 (g:=λN n=>cx (e6 P (b6 P aw N n)) N b) (λae H x A=>p A) h;refine⟨max k M,λN i n m=> ?_⟩;simp only[cx];exact A7 (e N af n af) af
 |exit id=>intro ae H x h;exact⟨0,λ_ _ _ _=>h⟩
 |ret=>intro ae H x h;exact⟨0,λ_ _ _ _=>h⟩
 |label l=>intro ae H x h;exact⟨0,λ_ _ _ _=>h⟩
 |goto l=>intro ae H x h;cases h
 |scope b p=>intro ae H x h;cases h
 |rangeFunc f E a b q s=>intro ae H x h;cases h
 |refuse y=>intro ae H x h;cases h
def yH{f:Nat}{args:List aa}{H H':ad}{fn:Func}{c:Code}{M:Nat}{ex:aJ}{ae:a7}{d:List aa}(e:aw f args H=Z)(j:P.funcs[f]? =D fn)(i:fn.body=D c)
  (h:cx (e6 P (aA P aw)) M c (a7.enter fn.ntmps args) H=D (ex,ae,H')) (hex:∀id,ex≠ .exit id) (a:gZ P ae H' fn.results.toList=D d):aA P aw f args H=D (lx d,H'):=by
 obtain⟨k,l⟩:=Hi c h;refine BG ⟨k+1,λN m n o=> ?_⟩;cases n with
 |zero=>omega
 |succ n=>
  simp only[b6,e,j,i,l N af n af];cases ex with
  |exit id=>exact absurd rfl (hex id)
  |normal=>simp only[a]
  |ret=>simp only[a]
def lD{f:Nat}{args:List aa}{H:ad}{r:aa×ad}(h:aw f args H=D r):aA P aw f args H=D r:=by
 refine BG ⟨1,λN a n c=> ?_⟩;cases n with
 |zero=>omega
 |succ n=>simp only[b6,h]
end
abbrev O:=Option (aa×ad)
abbrev cu:=Nat->aa
def eg(ae:cu)(dst:Option Nat)(v:aa):cu:=match dst with
 |none=>ae
 |some d=>λe=>bif Nat.beq e d then v else ae e
def da(ae:cu):Operand->Option aa
 | .tmp t=>D (ae t)
 | .const v=>qu v
 | .global _=>Z
 | .func f=>D (.func (.func f) [] [])
def kN(ae:cu):List Operand->Option (List aa)
 |[]=>D []
 |x::xs=>(da ae x).bind λv=>(kN ae xs).bind λa=>D (v::a)
def p1(ae:cu):List (Nat×Operand)->Option (List (Nat×aa))
 |[]=>D []
 |(i,x)::xs=>(da ae x).bind λv=>(p1 ae xs).bind λa=>D ((i,v)::a)
def p2(ae:cu):Option Operand->Option (Option aa)
 |none=>D Z
 |some x=>(da ae x).bind λv=>D (D v)
def cU(c:aa)(a b:Option aa):Option aa:=match c with
 | .bool t=>bif t then a else b
 |_=>Z
def rB(P:Program)(t:TypeId)(c:Bool)(a b:aa):Bool:=
 match a,b with
 | .nilIface,.nilIface=>c
 | .agg _,.agg _=> !P.eqGuardType P.depth t
 |_,_=>X
def an(P:Program)(op:BinOp)(t:TypeId)(c:Bool)(x y:aa):Option aa:=
 match x,y with
 | .int k a,.int d b=>
  (match op with
  | .shl=>oj .shl k a b
  | .shr=>oj .shr k a b
  |op=>if k=d then ht op k a b else Z)
 | .str a,.str b=>q2 op a b
 |x,y=>
  (match op with
  | .eql=>if rB P t c x y then(jx P 10000 t x y).map .bool else Z
  | .neq=>if rB P t c x y then(jx P 10000 t x y).map λb=> .bool (!b)else Z
  |_=>Z)
def Hg(P:Program)(t:TypeId)(x y:Operand)(u v:aa):rB P t (isConst x||isConst y) u v=mE P t x y u v:=by
 unfold rB mE;cases u<;>cases v<;>rfl
def Hn(P:Program)(op:BinOp)(t:TypeId)(x y:Operand)(u v:aa):an P op t (isConst x||isConst y) u v=pI P op t x y u v:=by
 unfold an pI;simp only[Hg];cases u<;>cases v<;>cases op<;>rfl
def rF(P:Program)(o:Op)(ae:cu):Option aa:=
 match o with
 | .move x=>da ae x
 | .assign x=>da ae x
 | .pick c a b=>(da ae c).bind λu=>cU u (da ae a) (da ae b)
 | .build t n=>(p1 ae n.toList).bind (ch P t)
 | .nilCheck x=>(da ae x).bind bW
 | .binOp op t x y _=>(da ae x).bind λu=>(da ae y).bind λv=>an P op t (isConst x||isConst y) u v
 | .unOp op _ x=>(da ae x).bind (fk op)
 | .convert s d x=>(da ae x).bind (lv P s d)
 | .makeInterface t x=>(da ae x).bind (tH P t)
 | .makeFunc fn f c=>(kN ae f.toList).bind λe=>(kN ae c.toList).bind λcs=>D (.func fn e cs)
 | .slice t x lo j k=>(da ae x).bind λv=>(p2 ae lo).bind λl=>(p2 ae j).bind λh=>(p2 ae k).bind λm=>jy P t v l h m
 | .fieldAddr t x f=>(da ae x).bind λv=>aI P t v f
 | .field t x f=>(da ae x).bind λv=>cB P t v f
 | .indexAddr t x i=>(da ae x).bind λu=>(da ae i).bind λv=>cG P t u v
 | .index t x i=>(da ae x).bind λu=>(da ae i).bind λv=>eE P t u v
 | .extract x i=>(da ae x).bind λv=>eS v i
 | .typeAssert x _ t ok=>(da ae x).bind (tC P t ok)
 | .call c=>match c.callee with
  | .builtin b=>(kN ae c.args.toList).bind (b4 P .empty b c.argTypes.toList)
  |_=>Z
 |_=>Z
def oi(P:Program)(o:Op)(ae:cu)(H:ad):Option aa:=
 match o with
 | .load t x=>(da ae x).bind (al P H t)
 | .lookup t x k ok=>(da ae x).bind λu=>(da ae k).bind λv=>rm P H t u v ok
 | .convert s d x=>(da ae x).bind (mu P H s d)
 | .call c=>match c.callee with
  | .builtin b=>(kN ae c.args.toList).bind (b4 P H b c.argTypes.toList)
  |_=>Z
 |_=>Z
def dT(l:Nat)(v:aa):Option (aa×bN):=bif v.cells.all aa.one then D (.ptr l 0 0,.row U v.cells.length [v.cells])else Z
def oa(ot:Option TypeId)(l:Nat)(v:aa):Option (aa×bN):=bif v.cells.all aa.one then D (.ptr l 0 0,dy ot v.cells.length [v.cells])else Z
def bU(P:Program)(l:Nat)(t:TypeId)(len:Nat)(parts:List (Nat×aa)):Option (aa×bN):=
 match P.underlying t with
 |some (.slice e)=>
  (match cn P e,eF P e with
  |some a,D z=>
   bif decide (len*a<=16777216/\z.cells.length=a/\z.cells.all aa.one=X)then
    (iE a (List.replicate len z.cells) parts).bind λels=>D (.ay l 0 len a (D len),.row U a els)
   else Z
  |_,_=>Z)
 |_=>Z
def uy(P:Program)(o:Op)(ae:cu)(l:Nat):Option (aa×bN):=
 match o with
 | .alloc t=>(eF P t).bind (oa (oD P t) l)
 | .box t x=>(da ae x).bind (oa (oD P t) l)
 | .buildSlice t n a=>(p1 ae a.toList).bind (bU P l t n)
 | .makeMap _ Z=>D (.map l,.map [])
 | .makeSlice t x c=>(da ae x).bind λu=>(da ae c).bind λv=>mR (rn P ⟨.leaf,l⟩ t u v) l
 |_=>Z
def uD(P:Program)(o:Op)(ae:cu)(H:ad):Option (aa×ad):=
 match o with
 | .store t x y=>(da ae x).bind λu=>(da ae y).bind λv=>(aT P H t u v).bind λH'=>D (.tuple [],H')
 | .mapUpdate t m k x=>(da ae m).bind λu=>(da ae k).bind λv=>(da ae x).bind λz=>(n7 P H t u v z).bind λH'=>D (.tuple [],H')
 | .insert t m k x=>(da ae m).bind λu=>(da ae k).bind λv=>(da ae x).bind λz=>(n7 P H t u v z).bind λH'=>D (.tuple [],H')
 | .call c=>match c.callee,c.args.toList with
  | .builtin .append,[s,x]=>(da ae s).bind λu=>(da ae x).bind λv=>cR P H c.argTypes.toList u v
  | .builtin .clear,[x]=>(da ae x).bind λu=>(rl P H c.argTypes.toList u).bind λH'=>D (.tuple [],H')
  |_,_=>Z
 |_=>Z
def yj(f:aa)(a:List aa):Option (Nat×List aa):=match f with
 | .func (.func g) first captured=>D (g,first++a++captured)
 |_=>Z
def Ca(P:Program)(H:ad)(r:aa)(name:String)(a:List aa):Option (Nat×List aa):=(n8 P H r name).bind λp=>D (p.1,p.2::a)
def um(P:Program)(H:ad)(ae:cu)(c:Call):Option (Nat×List aa):=
 match c.callee with
 | .value f=>(da ae f).bind λu=>(kN ae c.args.toList).bind λa=>yj u a
 | .invoke r name=>(da ae r).bind λu=>(kN ae c.args.toList).bind λa=>Ca P H u name a
 |_=>Z
def gW(a b:Option aa)(k:K->O):O:=match a with
 |some v=>k (.pure v)
 |none=>b.bind λv=>k (.read v)
def tg(r:Option (aa×bN))(k:K->O):O:=match r with
 |some (v,b)=>k (.new v b)
 |none=>Z
def eX(H:ad)(r:O)(k:K->O):O:=match r with
 |some (v,H')=>bif decide (H.next<=H'.next)then k (.dM v H')else Z
 |none=>Z
def rD(P:Program)(call:ax)(o:Op)(ae:cu)(H:ad)(k:K->O):O:=
 match cls o with
 | .pure=>(rF P o ae).bind λv=>k (.pure v)
 | .read=>(oi P o ae H).bind λv=>k (.read v)
 | .both=>gW (rF P o ae) (oi P o ae H) k
 | .new=>tg (uy P o ae H.next) k
 | .write=>eX H (uD P o ae H) k
 | .call=>match o with
  | .call c=>(um P H ae c).bind λp=>eX H (call p.1 p.2 H) k
  |_=>Z
def pw(b:aa)(want:Bool)(m:(K->O)->O)(k:K->O):O:=match b with
 | .bool t=>bif t==want then m k else k .skip
 |_=>k .skip
def rE(P:Program)(call:ax)(ops:Array Oper)(o:Oper)(ae:cu)(H:ad)(k:K->O):O:=
 match o.guard with
 |none=>rD P call o.op ae H k
 |some (j,want)=>match ops[j]? with
  |some q=>(match q.dst with
   |some d=>pw (ae d) want (rD P call o.op ae H) k
   |none=>k .skip)
  |none=>k .skip
def sX(P:Program)(call:ax)(ops:Array Oper):List Oper->cu->ad->(cu->ad->O)->O
 |[],ae,H,k=>k ae H
 |o::os,ae,H,k=>rE P call ops o ae H λx=>sX P call ops os (eg ae o.dst x.val) (x.heap H) k
structure iW where
 i:Nat
 k:K
 rd:ad->Option aa
def oc(ms:List Nat):List iW->List Nat->Bool
 |[],_=>X
 |t::ts,ids=>match t.k with
  | .dM _ _=>ids.all (λj=>c6 ms j t.i)&&oc ms ts (t.i::ids)
  | .new _ _=>oc ms ts (t.i::ids)
  |_=>oc ms ts ids
def bg(r:Option aa)(v:aa):Bool:=match r with
 |some u=>aa.beq u v
 |none=>U
def pt(ms:List Nat)(rd:ad->Bool)(i:Nat):List iW->ad->Bool
 |[],H=>rd H
 |t::ts,H=>bif t.k.eV then(c6 ms t.i i||rd H)&&(c6 ms i t.i||pt ms rd i ts (t.k.heap H))else pt ms rd i ts H
def ob(ms:List Nat)(i:Nat):List iW->Bool->Bool
 |[],_=>U
 |t::ts,s=>match t.k with
  | .new _ _=>(s&&c6 ms t.i i&&ts.all λu=>lL u.k)||ob ms i ts (s|| !c6 ms t.i i)
  | .dM _ _=>ob ms i ts (s|| !c6 ms t.i i)
  |_=>ob ms i ts s
def mQ(ms:List Nat)(rd:ad->Bool)(i:Nat):List iW->ad->Bool->Bool
 |[],_,_=>U
 |t::ts,H,s=>match t.k with
  | .new _ b=>bif s&&c6 ms t.i i&&ts.all (λu=>lL u.k)then rd (H.push b).only||mQ ms rd i ts (H.push b) (s|| !c6 ms t.i i)else mQ ms rd i ts (H.push b) (s|| !c6 ms t.i i)
  | .dM _ H'=>mQ ms rd i ts H' (s|| !c6 ms t.i i)
  |_=>mQ ms rd i ts H s
def v7(ms:List Nat)(rd:ad->Bool)(i:Nat)(T:List iW)(H:ad):Bool:=bif ob ms i T U then pt ms rd i T H||mQ ms rd i T H U else pt ms rd i T H
def td(ms:List Nat)(a:List Nat)(T:List iW)(H:ad):List iW->Bool
 |[]=>X
 |t::ts=>(match t.k with
  | .read v=>a.contains t.i||v7 ms (λH=>bg (t.rd H) v) t.i T H
  |_=>X)&&td ms a T H ts
def pV(ms:List Nat)(a:List Nat)(T:List iW)(H:ad):Bool:=oc ms T []&&td ms a T H T
def pR(P:Program)(call:ax)(ops:Array Oper):List Nat->cu->ad->(List iW->cu->ad->O)->O
 |[],ae,H,k=>k [] ae H
 |i::is,ae,H,k=>match ops[i]? with
  |none=>Z
  |some o=>rE P call ops o ae H λx=>pR P call ops is (eg ae o.dst x.val) (x.heap H) λT a6 H'=>k (⟨i,x,oi P o.op ae⟩::T) a6 H'
def wA(ops:Array Oper):List Nat:=(order ops).filter (tied ops (dx ops) (order ops))
def quiet(ops:Array Oper):Bool:=ops.toList.all λo=> !mJ o.op
def vK(P:Program)(call:ax)(ops:Array Oper)(draw:Bool)(ae:cu)(H:ad)(k:cu->ad->O):O:=
 match draw with
 |false=>sX P call ops ops.toList ae H k
 |true=>bif quiet ops then pR P call ops (order ops) ae H λ_ a6 H'=>k a6 H' else
  pR P call ops (order ops) ae H λT a6 H'=>bif pV (dx ops) (wA ops) T H then k a6 H' else Z
def aV(c:Option aa)(a b:O):O:=match c with
 |some (.bool t)=>bif t then a else b
 |_=>Z
abbrev dW:=cu->ad->O
def look(i:Nat):List (Nat×dW)->dW
 |[],_,_=>Z
 |(j,k)::ks,ae,H=>bif Nat.beq i j then k ae H else look i ks ae H
def mK(b:dW->dW):Nat->dW
 |0,_,_=>Z
 |n+1,ae,H=>b (λae H=>mK b n ae H) ae H
def bm(P:Program)(call:ax)(N:Nat):Code->dW->List (Nat×dW)->dW->dW
 | .skip,e,_,_,ae,H=>e ae H
 | .region _ ops d,e,_,_,ae,H=>vK P call ops d ae H e
 | .seq a b,e,ks,h,ae,H=>bm P call N a (λae H=>bm P call N b e ks h ae H) ks h ae H
 | .cond c a b,e,ks,h,ae,H=>aV (da ae c) (bm P call N a e ks h ae H) (bm P call N b e ks h ae H)
 | .block id b,e,ks,h,ae,H=>bm P call N b e ((id,e)::ks) h ae H
 | .loop b,_,ks,h,ae,H=>mK (λe ae H=>bm P call N b e ks h ae H) N ae H
 | .exit id,_,ks,_,ae,H=>look id ks ae H
 | .ret,_,_,h,ae,H=>h ae H
 | .label _,e,_,_,ae,H=>e ae H
 |_,_,_,_,_,_=>Z
def oN(P:Program)(H:ad)(ae:cu):List ResultVar->(List aa->O)->O
 |[],k=>k []
 | .tmp t::rs,k=>oN P H ae rs λc=>k (ae t::c)
 | .cell a t::rs,k=>(al P H t (ae a)).bind λv=>oN P H ae rs λc=>k (v::c)
def kU(P:Program)(rs:List ResultVar):dW:=λae H=>oN P H ae rs λa=>D (lx a,H)
def kJ:List aa->cu
 |[],_=> .tuple []
 |v::_,0=>v
 |_::a,n+1=>kJ a n
section
variable {P:Program}{aw:ax}{call:ax}{ae a6:a7}{H:ad}
def j7(x:Operand):da ae.get x=b0 ae x:=by cases x<;>rfl
def p3:∀xs:List Operand,kN ae.get xs=gK ae xs
 |[]=>rfl
 |x::xs=>by
  simp only[kN,gK,j7,p3 xs];cases b0 ae x<;>cases gK ae xs<;>rfl
def uA:∀xs:List (Nat×Operand),p1 ae.get xs=iC ae xs
 |[]=>rfl
 |(i,x)::xs=>by
  simp only[p1,iC,j7,uA xs];cases b0 ae x<;>cases iC ae xs<;>rfl
def HN(x:Option Operand):p2 ae.get x=jz ae x:=by
 cases x with
 |none=>rfl
 |some x=>simp only[p2,jz,j7];cases b0 ae x<;>rfl
def AR(o:Op):rF P o ae.get=iD P o ae:=by
 cases o<;>simp only[rF,iD,j7,p3,uA,HN,Hn]
 ·rename_i c a b;cases d:b0 ae c with
  |none=>rfl
  |some v=>cases v<;>first|rfl|(rename_i t;cases t<;>rfl)
 ·rename_i c;cases c.callee<;>rfl
def uB(o:Op):oi P o ae.get H=gJ P o ae H:=by
 cases o<;>simp only[oi,gJ,j7,p3]
 ·rename_i c;cases c.callee<;>rfl
def vm(v:aa)(l:Nat)(b:bN)(a:b.jG=X):mR (D (v,ad.push ⟨.leaf,l⟩ b)) l=D (v,b):=by
 unfold mR;simp only[ad.bQ,if_true];have:(ad.push ⟨.leaf,l⟩ b).get l=D b:=ad.bx ⟨.leaf,l⟩ b;rw[this];simp[a]
def IX(ot:Option TypeId)(esz:Nat)(els:List (List aa)):(dy ot esz els).jG=true:=by cases ot<;>rfl
def yd(ot:Option TypeId)(l:Nat)(v:aa):oa ot l v=mR (n3 ot ⟨.leaf,l⟩ v) l:=by
 unfold oa n3;by_cases h:v.cells.all aa.one=X
 ·rw[h,if_pos rfl];exact(vm _ _ _ (IX _ _ _)).symm
 ·rw[if_neg h];simp only[Bool.not_eq_true]at h;rw[h];rfl
def MT(l:Nat)(t:TypeId)(n:Nat)(a:List (Nat×aa)):bU P l t n a=mR (pJ P ⟨.leaf,l⟩ t n a) l:=by
 unfold bU pJ;cases hu:P.underlying t with
 |none=>rfl
 |some d=>
  cases d<;>try rfl
  rename_i e;simp only
  cases az:cn P e with
  |none=>rfl
  |some c=>
  cases i:eF P e with
  |none=>rfl
  |some z=>
   simp only
   by_cases h:n*c<=16777216/\z.cells.length=c/\z.cells.all aa.one=X
   ·rw[if_pos h,decide_eq_true h];simp only[aU];cases iE c (List.replicate n z.cells) a with
    |none=>rfl
    |some els=>exact(vm _ _ _ rfl).symm
   ·rw[if_neg h,decide_eq_false h];rfl
def HH(o:Op)(l:Nat):uy P o ae.get l=iY P o ae l:=by
 unfold iY;cases o<;>simp only[uy,mw,j7,uA]<;>try rfl
 ·rename_i t;unfold rk;cases eF P t with
  |none=>rfl
  |some v=>exact yd _ l v
 ·rename_i t x;cases b0 ae x with
  |none=>rfl
  |some v=>exact yd _ l v
 ·rename_i t n a;cases iC ae a.toList with
  |none=>rfl
  |some v=>exact MT l t n v
 ·rename_i t r;cases r with
  |none=>exact(vm _ _ _ rfl).symm
  |some r=>rfl
 ·rename_i t x c;cases b0 ae x with
  |none=>rfl
  |some u=>cases b0 ae c<;>rfl
def map_bind{α β:Type}(x:Option α)(f:α->β):x.bind (λa=>D (f a))=x.map f:=by cases x<;>rfl
def HO(o:Op):uD P o ae.get H=j3 P o ae H:=by
 cases o<;>simp only[uD,j3,j7,map_bind]
 ·rename_i c;cases d:c.callee with
  |builtin b=>
   cases a:c.args.toList with
   |nil=>cases b<;>rfl
   |cons s r=>
    cases r with
    |nil=>cases b<;>rfl
    |cons x r=>cases r<;>cases b<;>rfl
  |value f=>rfl
  |invoke r m=>rfl
def Hp(c:Call):um P H ae.get c=kI P H ae c:=by
 unfold um kI;cases h:c.callee with
 |value f=>
  simp only[j7,p3];cases b0 ae f with
  |none=>rfl
  |some v=>
   cases d:gK ae c.args.toList with
   |none=>
    simp only[Option.bind_some,Option.bind_none];split<;>first|rfl|(simp_all;done)
   |some e=>
    simp only[Option.bind_some];unfold yj;split
    ·rename_i g first captured;rfl
    ·rename_i a;split
     ·rename_i g first captured he
      simp only[aS]at he;exact absurd he (a _ _ _)
     ·rfl
 |invoke r m=>
  simp only[j7,p3];cases b0 ae r with
  |none=>rfl
  |some v=>
   simp only[Option.bind_some];cases d:gK ae c.args.toList with
   |none=>cases n8 P H v m<;>rfl
   |some e=>
    simp only[Option.bind_some,Ca];cases n8 P H v m<;>rfl
 |builtin b=>rfl
def zO(o:Op)(k:K->O):rD P call o ae.get H k=(step1 P call o ae H).bind k:=by
 unfold rD step1;cases e:cls o with
 |pure=>simp only[AR];cases iD P o ae<;>rfl
 |read=>simp only[uB];cases gJ P o ae H<;>rfl
 |both=>
  simp only[AR,uB];unfold gW;cases iD P o ae with
  |some v=>rfl
  |none=>cases gJ P o ae H<;>rfl
 |new=>
  simp only[HH];unfold tg;cases iY P o ae H.next<;>rfl
 |write=>
  simp only[HO];unfold eX;cases h:j3 P o ae H with
  |none=>rfl
  |some r=>
   obtain⟨v,H'⟩:=r;simp only[oo];by_cases a:H.next<=H'.next
   ·rw[if_pos a,decide_eq_true a];rfl
   ·rw[if_neg a,decide_eq_false a];rfl
 |call=>
  cases o<;>try rfl
  rename_i c;simp only[Hp];cases kI P H ae c with
  |none=>rfl
  |some p=>
   obtain⟨g,d⟩:=p;simp only[Option.bind_some];unfold eX;cases h:call g d H with
   |none=>rfl
   |some r=>
    obtain⟨v,H'⟩:=r;simp only[oo];by_cases a:H.next<=H'.next
    ·rw[if_pos a,decide_eq_true a];rfl
    ·rw[if_neg a,decide_eq_false a];rfl
def zP(ops:Array Oper)(o:Oper)(k:K->O):rE P call ops o ae.get H k=(hc P call ops o ae H).bind k:=by
 unfold rE hc j2;cases c:o.guard with
 |none=>exact zO o.op k
 |some p=>
  obtain⟨j,want⟩:=p;simp only
  cases h:ops[j]? with
  |none=>rfl
  |some q=>
   simp only
   cases a:q.dst with
   |none=>rfl
   |some d=>
    simp only
    cases i:ae.get d<;>try rfl
    rename_i t;simp only[pw];cases e:(t==want)with
    |true=>simp only[aU];exact zO o.op k
    |false=>rfl
def E6{dst:Option Nat}{v:aa}(h:ae.put dst v=D a6):eg ae.get dst v=a6.get:=by
 funext e
 rw[a7.p8 h];cases dst with
 |none=>simp[eg]
 |some d=>
  simp only[eg];by_cases he:e=d
  ·subst he;simp[Nat.beq_refl]
  ·have a:Nat.beq e d=false:=by rw[<-Bool.not_eq_true,Nat.beq_eq];exact he
   rw[a];simp[Ne.symm he]
def mD(n:Nat)(o:Oper):Bool:=match o.dst with
 |none=>X
 |some d=>decide (d<n)
def CQ{o:Oper}(h:mD ae.size o=X)(v:aa):∃a6,ae.put o.dst v=D a6/\a6.size=ae.size:=by
 unfold mD at h;cases a:o.dst with
 |none=>exact⟨ae,rfl,rfl⟩
 |some d=>
  rw[a]at h;exact⟨{ae with t:=bk.put v (d+1) ae.t d},by simp only[a7.put];rw[if_pos (of_decide_eq_true h)],rfl⟩
def DC(ops:Array Oper)(k:cu->ad->O):∀(os:List Oper) (ae:a7) (H:ad),os.all (mD ae.size)=X->
  sX P call ops os ae.get H k=(hl P call ops os ae H).bind λp=>k p.1.get p.2
 |[],ae,H,_=>rfl
 |o::os,ae,H,h=>by
  simp only[List.all_cons,Bool.and_eq_true]at h;simp only[sX,hl,zP];cases d:hc P call ops o ae H with
  |none=>rfl
  |some x=>
   obtain⟨a6,a,c⟩:=CQ h.1 x.val;simp only[Option.bind_some,a,E6 a];exact DC ops k os a6 _ (by rw[c];exact h.2)
def bC.c(P:Program)(t:bC):iW:=⟨t.i,t.k,oi P t.o.op t.ae.get⟩
def yy(ms:List Nat):∀(T:List bC) (ids:List Nat),oc ms (T.map (bC.c P)) ids=iH ms T ids
 |[],_=>rfl
 |t::T,ids=>by
  simp only[List.map_cons,oc,iH,bC.c];cases t.k<;>simp only[yy ms T]
def wN(ms:List Nat)(rd:ad->Bool)(i:Nat):∀(T:List bC) (H:ad),pt ms rd i (T.map (bC.c P)) H=jr ms rd i T H
 |[],_=>rfl
 |t::T,H=>by
  simp only[List.map_cons,pt,jr,bC.c];cases t.k.eV
  ·simp only[aO];exact wN ms rd i T H
  ·simp only[aU,if_true];rw[wN ms rd i T]
def yl(ms:List Nat)(i:Nat):∀(T:List bC) (s:Bool),ob ms i (T.map (bC.c P)) s=mA ms i T s
 |[],_=>rfl
 |t::T,s=>by
  simp only[List.map_cons,ob,mA,bC.c];cases t.k<;>simp only[yl ms i T,List.all_map]<;>rfl
def Ce(ms:List Nat)(rd:ad->Bool)(i:Nat):∀(T:List bC) (H:ad) (s:Bool),mQ ms rd i (T.map (bC.c P)) H s=jJ ms rd i T H s
 |[],_,_=>rfl
 |t::T,H,s=>by
  simp only[List.map_cons,mQ,jJ,bC.c];cases t.k<;>simp only[Ce ms rd i T,List.all_map]<;>rfl
def MC(ms:List Nat)(rd:ad->Bool)(i:Nat)(T:List bC)(H:ad):v7 ms rd i (T.map (bC.c P)) H=pc ms rd i T H:=by
 simp only[v7,pc,yl,Ce,wN]
def Fg(ms:List Nat)(d:List Nat)(a:Nat->Bool)(T:List bC)(H:ad):∀(S:List bC),(∀t∈S,d.contains t.i=a t.i)->td ms d (T.map (bC.c P)) H (S.map (bC.c P))=kD P ms a T H S
 |[],_=>rfl
 |t::S,h=>by
  simp only[List.map_cons,td,kD,Fg ms d a T H S λt e=>h t (by simp[e])]
  congr 1
  simp only[bC.c,h t (by simp)];cases t.k<;>try rfl
  simp only[MC]
  congr 2
  funext H
  simp only[bg,mY,uB];cases gJ P t.o.op t.ae H<;>rfl
def CT(ms:List Nat):∀(T:List bC) (ids:List Nat),(∀t∈T,t.k.eV=U)->iH ms T ids=X
 |[],_,_=>rfl
 |t::T,ids,h=>by
  have a:=h t (by simp);simp only[iH];have d:=CT ms T ids λu hu=>h u (by simp[hu])
  cases c:t.k<;>rw[c]at a<;>first|exact d|(cases a;done)
def CU(ms:List Nat)(a:Nat->Bool)(T:List bC)(H:ad):∀(S:List bC),(∀t∈S,a t.i=X)->kD P ms a T H S=X
 |[],_=>rfl
 |t::S,h=>by
  simp only[kD,h t (by simp),CU ms a T H S λt c=>h t (by simp[c]),Bool.true_or,Bool.and_true];cases t.k<;>rfl
def tW(ops:Array Oper):∀(is:List Nat) (ae:a7) (H:ad) (k:List iW->cu->ad->O),ops.toList.all (mD ae.size)=X->
  pR P call ops is ae.get H k=(canRun P call ops is ae H).bind λp=>k (p.1.map (bC.c P)) p.2.1.get p.2.2
 |[],ae,H,k,_=>rfl
 |i::is,ae,H,k,h=>by
  simp only[pR,canRun];cases e:ops[i]? with
  |none=>rfl
  |some o=>
   simp only[zP];cases l:hc P call ops o ae H with
   |none=>rfl
   |some x=>
    have hm:mD ae.size o=true:=by
     rw[List.all_eq_true]at h;exact h o (by have:=Array.mem_of_getElem? e;simpa using this)
    obtain⟨a6,a,d⟩:=CQ hm x.val;simp only[Option.bind_some,a,E6 a];rw[tW ops is a6 _ _ (by rw[d];exact h)];cases canRun P call ops is a6 (x.heap H)with
    |none=>rfl
    |some p=>obtain⟨T,j,H1⟩:=p;rfl
def JL(ops:Array Oper)(d:Bool)(k:cu->ad->O)(h:ops.toList.all (mD ae.size)=X):vK P call ops d ae.get H k=(e6 P call ops d ae H).bind λp=>k p.1.get p.2:=by
 unfold vK e6;cases d with
 |false=>exact DC ops k _ ae H h
 |true=>
  simp only
  rw[tW ops _ ae H _ h,tW ops _ ae H _ h];cases l:canRun P call ops (order ops) ae H with
  |none=>cases quiet ops<;>rfl
  |some p=>
   obtain⟨T,z,H1⟩:=p;have u:=(j5 l).1;have w:∀t∈T,t.i∈order ops:=λt a=>by rw[<-u];exact List.mem_map.2 ⟨t,a,rfl⟩
   have y:∀t∈T,(wA ops).contains t.i=tied ops (dx ops) (order ops) t.i:=λt a=>by
    unfold wA;rw[Bool.eq_iff_iff,List.contains_iff_mem,List.mem_filter];exact⟨λh=>h.2,λh=>⟨w t a,h⟩⟩
   simp only[Option.bind_some];cases c:quiet ops with
   |true=>
    have m:∀o∈ops.toList,mJ o.op=false:=λo x=>by
     unfold quiet at c;rw[List.all_eq_true]at c;simpa using c o x
    have aE:∀t∈T,t.k.eV=false:=λt a=>by
     obtain⟨A,B,n⟩:=List.append_of_mem a;have e:=tX (P:=P) (call:=call) (by rw[<-n];exact l);cases s:t.k.eV with
     |false=>rfl
     |true=>
      have:=Bc e.2.2.1 s;rw[m t.o (by have:=Array.mem_of_getElem? e.1;simpa using this)]at this;cases this
    have q:∀t∈T,tied ops (dx ops) (order ops) t.i=true:=λt _=>by
     unfold tied;rw[List.all_eq_true];intro j _;cases v:ops[j]? with
     |none=>simp
     |some o=>simp[m o (by have:=Array.mem_of_getElem? v;simpa using this)]
    simp only[aU,CT (dx ops) T [] aE,CU (dx ops) _ T H T q];rfl
   |false=>
    simp only[aO,pV,yy,Fg _ _ _ T H T y];cases iH (dx ops) T []with
    |false=>rfl
    |true=>
     cases kD P (dx ops) (tied ops (dx ops) (order ops)) T H T<;>rfl
def iG(n:Nat):Code->Bool
 | .region _ ops _=>ops.toList.all (mD n)
 | .seq a b=>iG n a&&iG n b
 | .cond _ a b=>iG n a&&iG n b
 | .block _ b=>iG n b
 | .loop b=>iG n b
 |_=>X
def od(r:Option (aJ×a7×ad))(a:dW)(ks:List (Nat×dW))(c:dW):O:=match r with
 |some (.normal,ae,H)=>a ae.get H
 |some (.exit id,ae,H)=>look id ks ae.get H
 |some (.ret,ae,H)=>c ae.get H
 |none=>Z
def DP{ops:Array Oper}:∀{os:List Oper} {ae a6:a7} {H H':ad},hl P call ops os ae H=D (a6,H')->a6.size=ae.size
 |[],ae,a6,H,H',h=>by
  simp only[hl,aS,bT]at h;rw[h.1]
 |o::os,ae,a6,H,H',h=>by
  simp only[hl]at h;split at h
  ·cases h
  ·split at h
   ·cases h
   ·rename_i c a;rw[DP h,a7.pe a]
def DM{ops:Array Oper}:∀{is:List Nat} {ae a6:a7} {H H':ad} {T:List bC},canRun P call ops is ae H=D (T,a6,H')->a6.size=ae.size
 |[],ae,a6,H,H',T,h=>by
  simp only[canRun,aS,bT]at h;rw[h.2.1]
 |i::is,ae,a6,H,H',T,h=>by
  simp only[canRun]at h;split at h
  ·cases h
  ·split at h
   ·cases h
   ·split at h
    ·cases h
    ·rename_i d a;split at h
     ·cases h
     ·rename_i c;simp only[aS,bT]at h;obtain⟨_,rfl,_⟩:=h;rw[DM c,a7.pe a]
def ML{ops:Array Oper}{d:Bool}{ae a6:a7}{H H':ad}(h:e6 P call ops d ae H=D (a6,H')):a6.size=ae.size:=by
 unfold e6 at h;split at h
 ·exact DP h
 ·split at h
  ·cases h
  ·rename_i a;split at h
   ·cases h
   ·split at h
    ·cases h
    ·simp only[aS,bT]at h;obtain⟨rfl,_⟩:=h;exact DM a
def DO{f:a7->ad->Option (aJ×a7×ad)}(a:∀ae H ex a6 H',f ae H=D (ex,a6,H')->a6.size=ae.size):
  ∀{n:Nat} {ae:a7} {H:ad} {ex:aJ} {a6:a7} {H':ad},iter f n ae H=D (ex,a6,H')->a6.size=ae.size
 |0,_,_,_,_,_,h=>by cases h
 |n+1,ae,H,ex,a6,H',h=>by
  simp only[iter]at h;split at h
  ·rename_i d H1 c;rw[DO a h,a _ _ _ _ _ c]
  ·exact a _ _ _ _ _ h
def DN{N:Nat}:∀(c:Code) {ae:a7} {H:ad} {ex:aJ} {a6:a7} {H':ad},cx (e6 P call) N c ae H=D (ex,a6,H')->a6.size=ae.size:=by
 intro c
 induction c with
 |skip=>intro ae H ex a6 H' h;simp only[cx,aS,bT]at h;rw[h.2.1]
 |region id ops d=>
  intro ae H ex a6 H' h;simp only[cx]at h;split at h
  ·rename_i m H1 e;simp only[aS,bT]at h;obtain⟨_,rfl,_⟩:=h;exact ML e
  ·cases h
 |seq a b j k=>
  intro ae H ex a6 H' h;simp only[cx]at h;split at h
  ·rename_i m H1 e;rw[k h,j e]
  ·exact j h
 |cond c a b j k=>
  intro ae H ex a6 H' h;simp only[cx]at h;split at h
  ·exact j h
  ·exact k h
  ·cases h
 |block id b i=>
  intro ae H ex a6 H' h;simp only[cx]at h;split at h
  ·rename_i n m H1 e;split at h<;>(simp only[aS,bT]at h;obtain⟨_,rfl,_⟩:=h;exact i e)
  ·exact i h
 |loop b i=>
  intro ae H ex a6 H' h;simp only[cx]at h;exact DO (λ_ _ _ _ _ h=>i h) h
 |exit id=>intro ae H ex a6 H' h;simp only[cx,aS,bT]at h;rw[h.2.1]
 |ret=>intro ae H ex a6 H' h;simp only[cx,aS,bT]at h;rw[h.2.1]
 |label l=>intro ae H ex a6 H' h;simp only[cx,aS,bT]at h;rw[h.2.1]
 |goto l=>intro ae H ex a6 H' h;cases h
 |scope b i=>intro ae H ex a6 H' h;cases h
 |rangeFunc f o a b j k=>intro ae H ex a6 H' h;cases h
 |refuse y=>intro ae H ex a6 H' h;cases h
def A5{f:a7->ad->Option (aJ×a7×ad)}{b:dW->dW}{ks:List (Nat×dW)}{e:dW}(m:Nat)(az:∀ae H ex a6 H',f ae H=D (ex,a6,H')->a6.size=ae.size)
  (d:∀(ae:a7) (H:ad) (a:dW),ae.size=m->b a ae.get H=od (f ae H) a ks e) (a:dW):∀(n:Nat) (ae:a7) (H:ad),ae.size=m->mK b n ae.get H=od (iter f n ae H) a ks e
 |0,ae,H,_=>rfl
 |n+1,ae,H,c=>by
  simp only[mK,iter];rw[d ae H _ c];cases h:f ae H with
  |none=>rfl
  |some x=>
   obtain⟨ex,i,H1⟩:=x;cases ex with
   |normal=>exact A5 m az d a n i H1 (by rw[az _ _ _ _ _ h];exact c)
   |exit id=>rfl
   |ret=>rfl
def yq{N:Nat}:∀(c:Code) (ae:a7) (H:ad) (e:dW) (ks:List (Nat×dW)) (i:dW),iG ae.size c=X->bm P call N c e ks i ae.get H=od (cx (e6 P call) N c ae H) e ks i:=by
 intro c
 induction c with
 |skip=>intro ae H e ks i _;rfl
 |region id ops d=>
  intro ae H e ks i h;simp only[bm,cx];rw[JL ops d e h];cases e6 P call ops d ae H<;>rfl
 |seq a b m n=>
  intro ae H e ks i h;simp only[iG,Bool.and_eq_true]at h;simp only[bm,cx];rw[m ae H _ ks i h.1];cases he:cx (e6 P call) N a ae H with
  |none=>rfl
  |some x=>
   obtain⟨ex,j,H1⟩:=x;cases ex with
   |normal=>exact n j H1 e ks i (by rw[DN a he];exact h.2)
   |exit id=>rfl
   |ret=>rfl
 |cond c a b m n=>
  intro ae H e ks i h;simp only[iG,Bool.and_eq_true]at h;simp only[bm,cx,j7];unfold aV;cases b0 ae c with
  |none=>rfl
  |some v=>
   cases v<;>try rfl
   rename_i t;cases t
   ·exact n ae H e ks i h.2
   ·exact m ae H e ks i h.1
 |block id b k=>
  intro ae H e ks i h;simp only[bm,cx];rw[k ae H e _ i h];cases he:cx (e6 P call) N b ae H with
  |none=>rfl
  |some x=>
   obtain⟨ex,j,H1⟩:=x;cases ex with
   |normal=>rfl
   |ret=>rfl
   |exit o=>
    simp only[od,look];by_cases hid:o=id
    ·subst hid;simp[Nat.beq_refl]
    ·have p:Nat.beq o id=false:=by rw[<-Bool.not_eq_true,Nat.beq_eq];exact hid
     rw[p,if_neg hid];rfl
 |loop b k=>
  intro ae H e ks i h;simp only[bm,cx];exact A5 ae.size (λ_ _ _ _ _ h=>DN b h) (λj H1 e q=>k j H1 e ks i (by rw[q];exact h)) e N ae H rfl
 |exit id=>intro ae H e ks i _;rfl
 |ret=>intro ae H e ks i _;rfl
 |label l=>intro ae H e ks i _;rfl
 |goto l=>intro ae H e ks i _;rfl
 |scope b k=>intro ae H e ks i _;rfl
 |rangeFunc f s a b m n=>intro ae H e ks i _;rfl
 |refuse y=>intro ae H e ks i _;rfl
def sj{ae:a7}{H:ad}:∀(rs:List ResultVar) (k:List aa->O),oN P H ae.get rs k=(gZ P ae H rs).bind k
 |[],k=>rfl
 | .tmp t::rs,k=>by
  simp only[oN,gZ,n9];rw[sj rs];cases gZ P ae H rs<;>rfl
 | .cell a t::rs,k=>by
  simp only[oN,gZ,n9];cases al P H t (ae.get a)with
  |none=>rfl
  |some v=>
   simp only[Option.bind_some];rw[sj rs];cases gZ P ae H rs<;>rfl
def xz(n:Nat)(args:List aa):(a7.enter n args).get=kJ args:=by
 have h:∀(args:List aa) (d:Nat),kJ args d=(args[d]?).getD (.tuple []):=by
  intro args
  induction args with
  |nil=>intro d;cases d<;>rfl
  |cons v e c=>
   intro d;cases d with
   |zero=>rfl
   |succ d=>simpa [kJ]using c d
 funext d
 rw[h];unfold a7.get a7.enter;simp only[vn];by_cases a:d<args.length
 ·rw[if_pos af];simp[a]
 ·rw[if_neg af,bk.p5];simp[a]
def Hj{f:Nat}{args:List aa}{H:ad}{fn:Func}{c:Code}{M:Nat}{r:aa×ad}(i:aw f args H=Z)(l:P.funcs[f]? =D fn)(k:fn.body=D c)(m:iG fn.ntmps c=X)(n:Nat.ble args.length fn.ntmps=X)
  (h:bm P (aA P aw) M c (kU P fn.results.toList) [] (kU P fn.results.toList) (kJ args) H=D r):aA P aw f args H=D r:=by
 have az:(a7.enter fn.ntmps args).size=fn.ntmps:=by have:=Nat.le_of_ble_eq_true n;simp only[a7.enter];omega
 rw[<-xz fn.ntmps,yq c _ _ _ _ _ (by rw[az];exact m)]at h;unfold od at h;have fin:∀(ae:a7) (H':ad),kU P fn.results.toList ae.get H'=D r->∃d,gZ P ae H' fn.results.toList=D d/\r=(lx d,H'):=by
  intro ae H' a;unfold kU at a;rw[sj]at a;cases j:gZ P ae H' fn.results.toList with
  |none=>rw[j]at a;cases a
  |some d=>rw[j]at a;exact⟨d,rfl,(Option.some.inj a).symm⟩
 split at h
 ·rename_i ae H' he;obtain⟨d,e,rfl⟩:=fin ae H' h;exact yH i l k he (λid=>by intro a;cases a) e
 ·cases h
 ·rename_i ae H' he;obtain⟨d,e,rfl⟩:=fin ae H' h;exact yH i l k he (λid=>by intro a;cases a) e
 ·cases h
end
end Go.b9
namespace Go
def a1:Code->Code
 | .seq a _=>a
 | .cond _ a _=>a
 | .block _ b=>b
 | .loop b=>b
 |c=>c
def o:Code->Code
 | .seq _ b=>b
 | .cond _ _ b=>b
 |c=>c
def Code.test:Code->Operand
 | .cond c _ _=>c
 |_=> .tmp 0
def Code.num:Code->Nat
 | .block id _=>id
 | .exit id=>id
 |_=>0
def Code.Ii:Code->Bool| .seq _ _=>X|_=>U
def Code.Ic:Code->Bool| .cond _ _ _=>X|_=>U
def Code.Ib:Code->Bool| .block _ _=>X|_=>U
def Code.Ig:Code->Bool| .loop _=>X|_=>U
end Go
namespace Go.b9
section
variable {P:Program}{call:ax}{N:Nat}{iA gG:dW}{gH:List (Nat×dW)}
def aN{c:Code}{k T:dW}(d:c.Ii=X)(h:∀ae H,bm P call N (o c) iA gH gG ae H=k ae H)(e:∀ae H,bm P call N (a1 c) k gH gG ae H=T ae H):
  ∀ae H,bm P call N c iA gH gG ae H=T ae H:=by
 cases c<;>first|cases d|skip
 rename_i a b;intro ae H;rw[<-e];show bm P call N a (λae H=>bm P call N b iA gH gG ae H) gH gG ae H=_;rw[show(λae H=>bm P call N b iA gH gG ae H)=k from funext λae=>funext λH=>h ae H];rfl
def dt{c:Code}{A B:dW}(e:c.Ic=X)(a:∀ae H,bm P call N (a1 c) iA gH gG ae H=A ae H)(d:∀ae H,bm P call N (o c) iA gH gG ae H=B ae H):
  ∀ae H,bm P call N c iA gH gG ae H=aV (da ae c.test) (A ae H) (B ae H):=by
 cases c<;>first|cases e|skip
 intro ae H;rw[<-a,<-d];rfl
def db{c:Code}{T:dW}(d:c.Ib=X)(a:∀ae H,bm P call N (a1 c) iA ((c.num,iA)::gH) gG ae H=T ae H):∀ae H,bm P call N c iA gH gG ae H=T ae H:=by
 cases c<;>first|cases d|skip
 intro ae H;rw[<-a];rfl
def en{c:Code}{k:Nat->dW}(e:c.Ig=X)(d:∀ae H,k 0 ae H=Z)(az:∀n ae H,bm P call N (a1 c) (k n) gH gG ae H=k (n+1) ae H):∀ae H,bm P call N c iA gH gG ae H=k N ae H:=by
 cases c<;>first|cases e|skip
 rename_i b;have key:∀n ae H,mK (λa ae H=>bm P call N b a gH gG ae H) n ae H=k n ae H:=by
  intro n
  induction n with
  |zero=>intro ae H;exact(d ae H).symm
  |succ n h=>
   intro ae H;rw[<-az n ae H];show bm P call N b (λae H=>mK _ n ae H) gH gG ae H=_;rw[show(λae H=>mK (λa ae H=>bm P call N b a gH gG ae H) n ae H)=k n from funext λae=>funext λH=>h ae H];rfl
 intro ae H;exact key N ae H
def aH(c:Code):∀ae H,bm P call N c iA gH gG ae H=bm P call N c iA gH gG ae H:=λ_ _=>rfl
def j(r:Option aa)(k:aa->O):O:=match r with
 |some v=>k v
 |none=>Z
def aG(H:ad)(r:O)(k:aa->ad->O):O:=match r with
 |some (v,H')=>bif decide (H.next<=H'.next)then k v H' else Z
 |none=>Z
def a8(H:ad)(r:Option ad)(k:ad->O):O:=aG H (r.bind λH'=>D (.tuple [],H')) λ_ H'=>k H'
def bV(H:ad)(r:Option (aa×bN))(k:aa->ad->O):O:=match r with
 |some (v,b)=>k v (H.push b)
 |none=>Z
def cp(H:ad)(cs:List aa)(k:aa->ad->O):O:=k (.ptr H.next 0 0) (H.push (.row U cs.length [cs]))
def bq(fn:Func):Code:=match fn.body with
 |some c=>c
 |none=> .skip
def bd(P:Program)(b:Builtin)(ts:List TypeId)(a:List aa)(H:ad)(k:aa->O):O:=match b4 P .empty b ts a with
 |some v=>k v
 |none=>(b4 P H b ts a).bind k
def pv(P:Program)(s d:TypeId)(v:aa)(H:ad)(k:aa->O):O:=match lv P s d v with
 |some v=>k v
 |none=>(mu P H s d v).bind k
def cm(v:aa)(q:K->O):O:=q (.pure v)
def bF(r:Option aa)(q:K->O):O:=r.bind λv=>q (.pure v)
def qr(r:Option aa)(q:K->O):O:=r.bind λv=>q (.read v)
def aP(b:aa)(want:Bool)(H:ad)(m:(K->O)->O)(k:aa->ad->O):O:=pw b want m λx=>k x.val (x.heap H)
