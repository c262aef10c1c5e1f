/-
  Texts of one proof, laid together: Hv16 Hv17 Hv21 Hv22 Hv23.
-/
import Derived.Test.YtghmbpmaafnodaaDoorMC
set_option linter.unusedVariables false
set_option linter.unusedSimpArgs false
set_option linter.defProp false
open Option renaming some→D,none→Z
open Bool renaming true→X,false→U
namespace Go.cn
section
variable {E:Env}{P:Program}{call:ay}{ops:Array Oper}{ord:List Nat}{eu cE:a7}{H0 bP:ae}{T:List bN}{ρ0:Env}{w0:World}{Q:Exit->Act->World->Prop}
def Ctx.uniq(c:Ctx P call ops ord eu H0 T cE bP){A B:List bN}{t:bN}(h:T=A++t::B){u:bN}(hu:u∈T)(he:u.i=t.i):u=t:=by
 rw[h]at hu;rcases List.mem_append.1 hu with hu|hu
 ·exact absurd he (c.before h hu).1
 ·rcases List.mem_cons.1 hu with rfl|hu
  ·rfl
  ·exact absurd he.symm (c.after h hu).1
def vq(H0:ae)(T:List bN)(N:Nat)(ρ0:Env)(w0:World)(L:Nat->Bool)(ρ:Env)(w:World)(T1 T2:List bN):Prop:=T=T1++T2/\(∀t∈T1,t.k.eW=X->L t.i=X)/\(∀t∈T2,(∃v H,t.k= .ea v H)->L t.i=U)/\e3 ρ0 H0 w0 N (ec L T2 (cr T1 H0)) ρ (cr T1 H0) w
def Ctx.next(c:Ctx P call ops ord eu H0 T cE bP){A B:List bN}{t:bN}(h:T=A++t::B){listed:Array Bool}(aB:listed.size=ops.size)(z:q1 ops (c8 listed))(N:c8 listed t.i=U)
  (hw:pB (c8 listed) t.o) {ρ:Env} {l:a7} {a:Act} {x:Value} {w:World} (R:dT ρ l a) (K:l.size=eu.size) (S:∀d,l.get d=fH (c8 listed) d T (eu.get d)) (Q:bj ρ t.k.val x) {T1 T2:List bN}
  (m:vq H0 T bP.next ρ0 w0 (c8 (listed.setIfInBounds t.i X)) ρ w T1 T2):Inv ops eu H0 T bP.next ρ0 w0 (listed.setIfInBounds t.i X) (a.put t.o.dst x) w:=by
 obtain⟨H,_,_,L⟩:=c.at h;have F:t.i<listed.size:=by rw[aB];exact(Array.getElem?_eq_some_iff.1 H).1
 have v:c8 (listed.setIfInBounds t.i X) t.i=true:=by rw[tG F];simp
 have n:∀j,j≠t.i->c8 (listed.setIfInBounds t.i X) j=c8 listed j:=λj s=>by rw[tG F];simp[s]
 have G:∀j,c8 listed j=X->c8 (listed.setIfInBounds t.i X) j=true:=λj s=>by
  by_cases e:j=t.i
  ·rw[e];exact v
  ·rw[n j e];exact s
 have O:∃a6,l.put t.o.dst t.k.val=D a6:=by
  cases M:t.o.dst with
  |none=>exact⟨l,rfl⟩
  |some d=>
   have:=L d M;exact⟨{l with t:=bt.put t.k.val (d+1) l.t d},by simp only[a7.put];rw[if_pos (by rw[K];exact this)]⟩
 obtain⟨a6,p⟩:=O;refine⟨by simpa using aB,λi o q E e he y=> ?_,ρ,T1,T2,m.1,m.2.1,m.2.2.1,m.2.2.2,a6,R.put p Q,by rw[a7.qN p,K],λd=> ?_⟩
 ·by_cases u:i=t.i
  ·subst u;rw[H]at q;cases q;exact G _ (hw e he y)
  ·rw[n i u]at E;exact G _ (z i o q E e he y)
 ·rw[a7.rC p d,c.vD h z N v n d,S d]
def Ctx.norm(c:Ctx P call ops ord eu H0 T cE bP){N:Nat}{L:Nat->Bool}{ρ:Env}{w:World}:∀{T2 T1:List bN},vq H0 T N ρ0 w0 L ρ w T1 T2->
  ∃y n,vq H0 T N ρ0 w0 L ρ w y n/\∀u e,n=u::e->u.k.eW=X/\L u.i=U
 |[],T1,m=>⟨T1,[],m,λu e h=>by cases h⟩
 |u::T2,T1,m=>by
  by_cases j:u.k.eW=X/\L u.i=U
  ·exact⟨T1,u::T2,m,λE e h=>by simp only[List.cons.injEq]at h;rw[<-h.1];exact j⟩
  ·obtain⟨o,z,p,A⟩:=m;have s:=rk c.aw;rw[o]at s;have B:=(ez.append s).2;have m':=e3.turns (zC:=[u]) (zD:=T2) (L:=L) B (λv a d=>by
    have:v=u:=by simpa using a
    subst this;have l:L v.i=true:=by
     cases a:L v.i with
     |true=>rfl
     |false=>exact absurd ⟨d,a⟩ j
    refine⟨l,?_⟩;cases q:v.k with
    |new x b=>exact⟨x,b,rfl⟩
    |ea x H=>rw[p v (by simp) ⟨x,H,q⟩]at l;cases l
    |_=>rw[q]at d;cases d) A
   rw[<-kj]at m';refine c.norm (T2:=T2) (T1:=T1++[u]) ⟨by rw[o];simp,λv a d=> ?_,λv a=>p v (by simp[a]),m'⟩;rcases List.mem_append.1 a with a|a
   ·exact z v a d
   ·have:v=u:=by simpa using a
    subst this;cases a:L v.i with
    |true=>rfl
    |false=>exact absurd ⟨d,a⟩ j
def xD{L:Nat->Bool}{u:bN}{v:ad}{b:bW}(hu:u.k= .new v b)(e:L u.i=X):∀{zC zD:List bN} {H:ae},ez H (zC++u::zD)->ec L (zC++u::zD) H (cr zC H).next=D b
 |[],zD,H,_=>by simp[ec,hu,e,cr]
 |c::zC,zD,H,hm=>by
  have a:=xD hu e (zC:=zC) (zD:=zD) hm.2;have hle:∀{zC:List bN} {H:ae},ez H zC->H.next<=(cr zC H).next:=by
   intro zC
   induction zC with
   |nil=>intro H _;exact bm _
   |cons x zC n=>intro H h;exact Nat.le_trans h.1 (n h.2)
  by_cases l:∃v b,c.k= .new v b
  ·obtain⟨o,cy,j⟩:=l;have d:=hle (ez.append hm.2).1;have m:=hm.2;rw[j]at d m a;simp only[K.heap,ae.b8]at d a;simp only[List.cons_append,ec,j,cr,K.heap];rw[if_neg af];exact a
  ·rw[List.cons_append,sa λv b h=>l ⟨v,b,h⟩,cr];exact a
def wJ{l:Nat}:∀{zC:List bN} {H:ae},(∀x∈zC,mV x.k=X)->l<H.next->(cr zC H).get l=H.get l
 |[],H,_,_=>rfl
 |c::zC,H,a,i=>by
  have e:=a c (by simp);rw[cr];cases h:c.k with
  |new v b=>
   rw[wJ (λx d=>a x (by simp[d])) (by simp only[K.heap,ae.b8];omega)];exact ae.dC af
  |ea v H'=>rw[h]at e;cases e
  |_=>exact wJ (λx d=>a x (by simp[d])) i
def Rel.K_{ρ:Env}{H:ae}{w:World}{b:bW}(h:b≠ .dead->∃loc,ρ H.next=D loc/\iZ ρ w loc b):Rel ρ (H.push b).only w where
 row l ro esz els a:=by
  obtain⟨rfl,rfl⟩:=ae.r0 a;obtain⟨loc,c,d⟩:=h (by intro e;cases e);exact⟨loc,c,d⟩
 map l es a:=by
  obtain⟨rfl,rfl⟩:=ae.r0 a;obtain⟨loc,c,d⟩:=h (by intro e;cases e);exact⟨loc,c,d⟩
 b0 l t esz els a:=by
  obtain⟨rfl,rfl⟩:=ae.r0 a;obtain⟨loc,c,d⟩:=h (by intro e;cases e);exact⟨loc,c,d⟩
 apart l l' loc j c d i _ _:=by
  exfalso;have aQ:∃x,(H.push b).only.get l=D x:=by
   unfold ae.rw at c;cases a:(H.push b).only.get l with
   |none=>simp[a]at c
   |some x=>exact⟨x,rfl⟩
  have a2:∃x,(H.push b).only.get l'=D x:=by
   unfold ae.live at d;cases a:(H.push b).only.get l' with
   |none=>simp[a]at d
   |some x=>exact⟨x,rfl⟩
  obtain⟨x,aQ⟩:=aQ;obtain⟨y,a2⟩:=a2;exact i ((ae.r0 aQ).1.trans (ae.r0 a2).1.symm)
def Ctx.any(c:Ctx P call ops ord eu H0 T cE bP)(bv:jC E P call)(bq:E.le ρ0)(bu:∀ρ a w,dT ρ cE a->Step ρ0 H0 w0 ρ bP w->Q .normal a w):
  ∀(fuel:Nat) (listed:Array Bool) (a:Act) (w:World),Inv ops eu H0 T bP.next ρ0 w0 listed a w->(List.range ops.size).countP (λj=> !c8 listed j)<=fuel->wpAny P .any ops Q fuel listed a w:=by
 have a_:∀listed a w,Inv ops eu H0 T bP.next ρ0 w0 listed a w->Region.ready .any ops listed=[]->Q .normal a w:=by
  intro listed a w s au;obtain⟨ρ,n,W⟩:=c.final s (c.H9 s.size au);exact bu ρ a w n W
 intro fuel
 induction fuel with
 |zero=>
  intro listed a w s bw;have au:Region.ready .any ops listed=[]:=by
   rw[List.eq_nil_iff_forall_not_mem];intro i aY;obtain⟨o,n,W,aS,aU⟩:=EV aY s.size;have b2:0<(List.range ops.size).countP (λj=> !c8 listed j):=List.countP_pos_iff.2 ⟨i,by simpa using aU,by simp[W]⟩;omega
  exact⟨au,a_ _ _ _ s au⟩
 |succ fuel aH=>
  intro listed a w s bw;refine⟨λau=>a_ _ _ _ s au,λi aY=> ?_⟩;obtain⟨o,al,ad,hw,a0⟩:=EV aY s.size;have bi:=c.xF;simp only[qb,Bool.and_eq_true,List.all_eq_true,List.mem_range]at bi;have bh:=bi.1 i a0;rw[List.contains_iff_mem,<-(kW c.aw).1,List.mem_map]at bh;obtain⟨t,ag,rfl⟩:=bh;have bG:=c.mem ag;obtain rfl:t.o=o:=Option.some.inj (bG.symm.trans al);obtain⟨ρ,T1,T2,S,ay,aA,m,a5,ak,a4,aO⟩:=s.mid;have bk:t.i<listed.size:=by rw[s.size];exact a0
  have an:c8 (listed.setIfInBounds t.i X) t.i=true:=by rw[tG bk];simp
  have V:∀j,j≠t.i->c8 (listed.setIfInBounds t.i X) j=c8 listed j:=λj ap=>by rw[tG bk];simp[ap]
  have aW:(List.range ops.size).countP (λj=> !c8 (listed.setIfInBounds t.i X) j)<=fuel:=by
   have:=Ac (p:=λj=> !c8 listed j) (q:=λj=> !c8 (listed.setIfInBounds t.i X) j) (i:=t.i) (l:=List.range ops.size) (by simpa using a0)
    (λj ap=>by
     by_cases e:j=t.i
     ·rw[e,an]at ap;cases ap
     ·simp only[V j e]at ap;exact ap) (by simp[ad]) (by simp[an])
   omega
  obtain⟨aP,aK,G⟩:=List.append_of_mem ag;have bg:∀d∈t.o.looksAt ops,a5.get d=t.aa.get d:=λd bx=>by rw[aO d];exact c.looks G s.closed hw ad d bx
  have aN:=II bg;have bH:Region.wanted t.o (yielded ops a.tmps)=kS ops t.aa t.o:=(zi ak t.o).trans (IK bg);unfold wpOp;rw[al];simp only[bH];have still:t.k.eW=U->∀x,bj ρ t.k.val x->wpAny P .any ops Q fuel (listed.setIfInBounds t.i X) (a.put t.o.dst x) w:=by
   intro z x F;refine aH _ _ _ (c.next G s.size s.closed ad hw ak a4 aO F (T1:=T1) (T2:=T2) ⟨S,λu hu aj=> ?_,λu hu am=> ?_,?_⟩) aW
   ·have:=ay u hu aj;by_cases e:u.i=t.i
    ·rw[e];exact an
    ·rw[V _ e];exact this
   ·have ar:u.i≠t.i:=λe=>by
     have:=c.uniq G (by rw[S];simp[hu]) e;subst this;obtain⟨v,H,R⟩:=am;rw[R]at z;cases z
    rw[V _ ar];exact aA u hu am
   ·rw[r9 (L':=c8 listed) λu hu v b R=>V _ λe=>by
     have:=c.uniq G (by rw[S];simp[hu]) e;subst this;rw[R]at z;cases z]
    exact m
  rcases pZ (c.at G).2.2.1 with⟨av,R⟩|⟨av,R⟩
  ·rw[av];simp only[if_true];refine .inl ?_;have a6:t.k.eW=X->∃zC zD,T2=zC++t::zD:=λz=>by
    rw[S]at ag;rcases List.mem_append.1 ag with ag|ag
    ·have:=ay t ag z;rw[ad]at this;cases this
    ·exact List.append_of_mem ag
   have aq:=rk c.aw;cases y:t.k with
   |skip=>rw[y]at R;exact R.elim
   |pure v=>
    rw[y]at R;have ab:=lJ.congr (λx F=>(aN x F).symm) R;exact Ey ab ak λx F=>still (by rw[y];rfl) x (by rw[y];exact F)
   |read v=>
    obtain⟨aL,aR,⟨f1,f2,f3,f4⟩,f5⟩:=c.norm (ρ0:=ρ0) (w0:=w0) (N:=bP.next) (L:=c8 listed) (ρ:=ρ) (w:=w) (T2:=T2) (T1:=T1) ⟨S,ay,aA,m⟩;have aM:∃aQ,Rel ρ aQ w/\hg P t.o.op t.aa aQ=D v:=by
     rcases G9 y c.P8 ag with bz|bE
     ·
       refine⟨_,f4.rel,?_⟩;have bd:hg P t.o.op t.aa (cr aP H0)=D v:=by
        rcases pZ (c.at G).2.2.1 with⟨_,bc⟩|⟨F,_⟩
        ·rw[y]at bc;exact bc
        ·rw[av]at F;cases F
       have bb:∀u∈T,u.k.eW=X->u.i≠t.i/\(dk (dJ ops) u.i t.i=X\/dk (dJ ops) t.i u.i=X):=λu hu z=>by
        have ar:u.i≠t.i:=λe=>by
         have:=c.uniq G hu e;subst this;rw[y]at z;cases z
        obtain⟨bY,bZ,n⟩:=List.append_of_mem hu;refine⟨ar,PH bz ?_ ar (c.at n).1 (CU (c.at n).2.2.1 z)⟩;rw[<-(kW c.aw).1,List.mem_map];exact⟨u,hu,rfl⟩
       have bC:∀u∈aP,u.k.eW=X->c8 listed u.i=true:=λu hu z=>by
        rcases(bb u (by rw[G];simp[hu]) z).2 with n|n
        ·exact kU s.closed _ _ al hw _ n
        ·have:=(c.before G hu).2.1;rw[n]at this;cases this
       have bA:∀u∈aK,u.k.eW=X->c8 listed u.i=false:=λu hu z=>by
        have bl:u∈T:=by rw[G];simp[hu]
        rcases(bb u bl z).2 with n|n
        ·have:=(c.after G hu).2.1;rw[n]at this;cases this
        ·cases ai:c8 listed u.i with
         |false=>rfl
         |true=>
          have aG:=c.mem bl;have:=kU s.closed _ _ aG (s.closed _ _ aG ai) _ n;rw[ad]at this;cases this
       have a3:aL++aR=aP++t::aK:=by rw[<-f1,<-G]
       rcases List.append_eq_append_iff.1 a3 with⟨b4,aB,aV⟩|⟨c',ao,ah⟩
       ·cases b4 with
        |nil=>rw[List.append_nil]at aB;rw[<-aB];exact bd
        |cons u bp=>
         obtain⟨g1,g2⟩:=f5 u (bp++t::aK) aV;have:=bC u (by rw[aB];simp) g1;rw[g2]at this;cases this
       ·have bF:∀(aJ:List bN) (H:ae),(∀u∈aJ,u.k.eW=U)->cr aJ H=H:=by
         intro aJ
         induction aJ with
         |nil=>intro H _;rfl
         |cons u aJ aH=>intro H a7;rw[cr,ti (a7 u (by simp))];exact aH H λu hu=>a7 u (by simp[hu])
        rw[ao,kj,bF c' _ ?_]
        ·exact bd
        ·intro u hu;cases z:u.k.eW with
         |false=>rfl
         |true=>
          have n:=f2 u (by rw[ao];simp[hu]) z;have W:u∈t::aK:=by rw[ah];simp[hu]
          rcases List.mem_cons.1 W with rfl|W
          ·rw[y]at z;cases z
          ·have:=bA u W z;rw[n]at this;cases this
     ·rcases Pa bE with bm|bD
      rotate_left
      ·obtain⟨A,u,B,bV,b,g1,g2,g3,g4,g5⟩:=DY bD;refine⟨_,Rel.K_ λaE=> ?_,ET g5⟩;have ai:=kU s.closed _ _ al hw _ g3;have a3:aL++aR=A++u::B:=by rw[<-f1,<-g1]
       rcases List.append_eq_append_iff.1 a3 with⟨b4,aB,aV⟩|⟨c',ao,ah⟩
       ·have aC:=f4.ju (cr A H0).next b (by
         rw[f1]at aq;have M:=(ez.append aq).2;rw[aV]at M ⊢;rw[aB,kj];exact xD g2 ai M)
        obtain⟨_,_,_,loc,aI,ax,_⟩:=aC;exact⟨loc,aI,ax⟩
       ·cases c' with
        |nil=>
         have aC:=f4.ju (cr A H0).next b (by
          rw[f1]at aq;have M:=(ez.append aq).2;rw[List.nil_append]at ah;rw[List.append_nil]at ao;rw[<-ah]at M ⊢;rw[ao]at M ⊢;exact xD (zC:=[]) g2 ai M)
         obtain⟨_,_,_,loc,aI,ax,_⟩:=aC;exact⟨loc,aI,ax⟩
        |cons x b1=>
         simp only[List.cons_append,List.cons.injEq]at ah;obtain⟨rfl,ah⟩:=ah;have aX:(cr aL H0).get (cr A H0).next=D b:=by
          rw[ao,kj,cr,g2];rw[wJ (λx F=>g4 x (by rw[ah];simp[F])) (by simp[K.heap])];exact ae.bM _ b
         cases b with
         |row ro esz els=>exact f4.rel.row _ _ _ _ aX
         |map es=>exact f4.rel.map _ _ aX
         |b0 t esz els=>exact f4.rel.b0 _ _ _ _ aX
         |dead=>exact absurd rfl aE
      refine⟨_,f4.rel,?_⟩;rw[show j6 (dJ ops) (oL P t.o.op t.aa v) t.i T H0=j6 (dJ ops) (oL P t.o.op t.aa v) t.i (aL++aR) H0 by rw[<-f1]]at bm;exact ET (yx bm (λu hu aj=>by
       cases aE:dk (dJ ops) t.i u.i with
       |false=>rfl
       |true=>
        have aG:=c.mem (t:=u) (by rw[f1];simp[hu]);have:=kU s.closed _ _ aG (s.closed _ _ aG (f2 u hu aj)) _ aE;rw[ad]at this;cases this) (λu bo hu=>by
       obtain⟨g1,g2⟩:=f5 u bo hu;refine⟨g1,?_⟩;cases aE:dk (dJ ops) u.i t.i with
       |false=>rfl
       |true=>
        have:=kU s.closed _ _ al hw _ aE;rw[g2]at this;cases this))
    obtain⟨aQ,bI,aM⟩:=aM;rw[<-y_ aN]at aM;exact EU bI aM ak λx F=>still (by rw[y];rfl) x (by rw[y];exact F)
   |new v b=>
    obtain⟨zC,zD,O⟩:=a6 (by rw[y];rfl);have n:T=(T1++zC)++t::zD:=by rw[S,O];simp
    have aZ:=(c.at n).2.2.1;rcases pZ aZ with⟨_,aF⟩|⟨F,_⟩
    ·rw[y]at aF;have ab:=lJ.congr (λx F=>(aN x F).symm) aF;have M:ez (cr T1 H0) (zC++t::zD):=by
      have:=aq;rw[S,O]at this;exact(ez.append this).2
     obtain⟨aI,ax⟩:=Ep (L:=c8 listed) (L':=c8 (listed.setIfInBounds t.i X)) y ad an M
      (λu hu=>(V _ (c.before n (by simp[hu])).1).symm) (λu hu=>(V _ (Ne.symm (c.after n hu).1)).symm)
     have ba:(cr T1 H0).next<=(cr zC (cr T1 H0)).next:=(ez.append M).1.le
     have bf:(cr zC (cr T1 H0)).next<bP.next:=by
      have W:=(ez.append M).2;have aS:=W.2.le;rw[y]at aS;have aU:bP=cr zD (K.heap (cr zC (cr T1 H0)) (.new v b)):=by
       rw[(kW c.aw).2.1,n,kj,kj,cr,y]
      rw[aU];simp only[K.heap,ae.b8]at aS ⊢;omega
     rw[O]at m;have bB:jE P t.o.op a5 (cr zC (cr T1 H0)).next=D (v,b):=by rw[<-kj];exact ab
     refine DZ bB ak (m.fresh _ ba bf ax) λx bW bX loc aT bn bO bQ bR bS hp bT bU bJ bK bL=> ?_
     have m':=m.early ba bf ax bn bO bQ bR bS hp bT bU bJ bK bL;rw[<-aI]at m';refine aH _ _ _ (c.next G s.size s.closed ad hw (ak.mono bn) a4 aO (by rw[y];exact aT) (T1:=T1) (T2:=zC++t::zD) ⟨by rw[S,O],λu hu aj=> ?_,λu hu am=> ?_,m'⟩) aW
     ·have:=ay u hu aj;by_cases e:u.i=t.i
      ·rw[e];exact an
      ·rw[V _ e];exact this
     ·have ar:u.i≠t.i:=λe=>by
       have:=c.uniq G (by rw[S,O];simp at hu ⊢;exact .inr hu) e;subst this;obtain⟨bV,H,ab⟩:=am;rw[y]at ab;cases ab
      rw[V _ ar];exact aA u (by rw[O];exact hu) am
    ·rw[av]at F;cases F
   |ea v H'=>
    obtain⟨zC,zD,O⟩:=a6 (by rw[y];rfl);have n:T=(T1++zC)++t::zD:=by rw[S,O];simp
    have aZ:=(c.at n).2.2.1;rcases pZ aZ with⟨_,aF⟩|⟨F,_⟩
    ·rw[y]at aF;have ab:=lJ.congr (λx F=>(aN x F).symm) aF;have M:ez (cr T1 H0) (zC++t::zD):=by
      have:=aq;rw[S,O]at this;exact(ez.append this).2
     have a9:=c.ea;rw[n]at a9;have a8:=(s_ a9 y).2;rw[O]at m;have m1:=e3.turns (zC:=zC) (zD:=t::zD) (L:=c8 listed) M (λu hu z=>by
      have ai:=kU s.closed _ _ al hw _ (a8 u (by simp[hu]) z);refine⟨ai,?_⟩;cases be:u.k with
      |new x b=>exact⟨x,b,rfl⟩
      |ea x H=>rw[aA u (by rw[O];simp[hu]) ⟨x,H,be⟩]at ai;cases ai
      |_=>rw[be]at z;cases z) m
     rw[sa (λv b h=>by rw[y]at h;cases h),y]at m1;simp only[K.heap]at m1;have a1:ez H' zD:=by have:=(ez.append M).2.2;rw[y]at this;exact this
     have bs:bP=cr zD H':=by rw[(kW c.aw).2.1,n,kj,cr,y];rfl
     have bt:H'.next<=bP.next:=by rw[bs];exact a1.le
     rw[kj]at ab;refine Ai (H:=cr zC (cr T1 H0)) (H':=H') bv m1.rel ⟨λl g1 g2=>m1.fresh l g1 af ?_,Env.le_trans bq m1.le⟩ ab ak λx bW bX g1 g2=> ?_
     ·cases a2:ec (c8 listed) zD H' l with
      |none=>rfl
      |some b=>have:=r_ a1 a2;omega
     ·have m2:=m1.step g2 bt (λl b a2=>r_ a1 a2);refine aH _ _ _ (c.next G s.size s.closed ad hw (ak.mono g2.le) a4 aO (by rw[y];exact g1) (T1:=T1++zC++[t]) (T2:=zD) ⟨by rw[n];simp,λu hu aj=> ?_,λu hu am=> ?_,?_⟩) aW
      ·by_cases e:u.i=t.i
       ·rw[e];exact an
       ·rw[V _ e];simp only[List.mem_append,List.mem_singleton]at hu;rcases hu with(hu|hu)|rfl
        ·exact ay u hu aj
        ·exact kU s.closed _ _ al hw _ (a8 u (by simp[hu]) aj)
        ·exact absurd rfl e
      ·rw[V _ (Ne.symm (c.after n hu).1)];exact aA u (by rw[O];simp[hu]) am
      ·have br:cr (T1++zC++[t]) H0=H':=by rw[kj,cr,y];rfl
       rw[br,r9 (L':=c8 listed) λu hu v b R=>V _ (Ne.symm (c.after n hu).1)];exact m2
    ·rw[av]at F;cases F
  ·rw[av];simp only[Bool.false_eq_true,if_false];exact still (by rw[R];rfl) undef (by rw[R];exact .tuple [] [] .nil)
def Qa{id:Nat}{a:Act}{w:World}(hm:P.follows .mixedOrders=X)(v:jC E P call)(c:Ctx P call ops ord eu H0 T cE bP)(u:Rel ρ0 H0 w)(n:h_ E ρ0 H0.next bP.next)(y:dT ρ0 eu a)
  (s:∀ρ a m,dT ρ cE a->Step ρ0 H0 w ρ bP m->Q .normal a m):(Code.region id ops X).wp P Q a w:=by
 have k:∀j,c8 (Array.replicate ops.size U) j=false:=λj=>by
  unfold c8;rw[Array.getD_eq_getD_getElem?];by_cases h:j<ops.size<;>simp[h]
 refine wp_region_any hm (c.any (ρ0:=ρ0) (w0:=w.drew) v n.le (λρ a m q e=>s ρ a m q ?_) _ _ _ _ ⟨by simp,λi o _ x=>absurd x (by rw[k];simp),ρ0,[],T,rfl,by simp,λt _ _=>k _,?_,eu,y,rfl,λd=> ?_⟩ ?_)
 ·exact⟨e.le,e.next,e.aW,e.rel,e.os,e.tape,e.output,e.size,e.frame,e.own,e.ro⟩
 ·have aC:ec (c8 (Array.replicate ops.size U)) T (cr [] H0)=λ_=>none:=by
   have:∀(T:List bN) (H:ae),ec (c8 (Array.replicate ops.size U)) T H=λ_=>none:=by
    intro T
    induction T with
    |nil=>intro H;rfl
    |cons t T p=>
     intro H
     funext l
     unfold ec;split
     ·rw[p,k];simp
     ·rw[p]
   exact this T _
  rw[aC];exact e3.start u.drew n.new
 ·rw[uc λt _ _=>k _]
 ·refine Nat.le_trans List.countP_le_length ?_;simp
end
def hL(P:Program)(call:ay)(ops:Array Oper):List Oper->a7->ae->Option (a7×ae)
 |[],aa,H=>D (aa,H)
 |o::os,aa,H=>match hD P call ops o aa H with
  |none=>Z
  |some k=>match aa.put o.dst k.val with
   |none=>Z
   |some a6=>hL P call ops os a6 (k.heap H)
def HP(o:Oper):Bool:=match cls o.op with
 | .write=>X
 | .call=>X
 |_=>U
def need(m:Nat)(done:Nat):List Nat->List Nat
 |[]=>[]
 |j::a=>if m.testBit j&& !done.testBit j then j::need m done a else need m done a
def Fu(done:Nat):List Nat->Nat
 |[]=>done
 |j::a=>Fu (done|||2^j) a
def xv(ms all:List Nat):List (Nat×Oper)->Nat->List Nat
 |[],done=>need (2^all.length-1) done all
 |(i,o)::is,done=>if HP o&& !done.testBit i then
   (let a:=need (ms[i]?.getD 0) done all
    a++i::xv ms all is (Fu done a|||2^i))
  else xv ms all is done
def Hm:Nat->List Oper->List (Nat×Oper)
 |_,[]=>[]
 |i,o::os=>(i,o)::Hm (i+1) os
def order(ops:Array Oper):List Nat:=xv (dJ ops) (List.range ops.size) (Hm 0 ops.toList) 0
def fp(P:Program)(call:ay)(ops:Array Oper)(draw:Bool)(aa:a7)(H:ae):Option (a7×ae):=
 match draw with
 |false=>hL P call ops ops.toList aa H
 |true=>match canRun P call ops (order ops) aa H with
  |none=>Z
  |some (T,a6,H')=>match ji (dJ ops) T []with
   |false=>Z
   |true=>match lG P (dJ ops) (tied ops (dJ ops) (order ops)) T H T with
    |false=>Z
    |true=>D (a6,H')
def kq:Code->Bool
 | .region _ ops X=>qb ops (dJ ops) (order ops)
 | .seq a b=>kq a&&kq b
 | .cond _ a b=>kq a&&kq b
 | .block _ b=>kq b
 | .loop b=>kq b
 |_=>X
inductive aJ where
 |normal
 |exit (id:Nat)
 |ret
def aJ.wi:aJ->Exit
 | .normal=> .normal
 | .exit id=> .exit id
 | .ret=> .ret
abbrev sT:=Array Oper->Bool->a7->ae->Option (a7×ae)
def iter(f:a7->ae->Option (aJ×a7×ae)):Nat->a7->ae->Option (aJ×a7×ae)
 |0,_,_=>Z
 |n+1,aa,H=>match f aa H with
  |some (.normal,a6,H')=>iter f n a6 H'
  |r=>r
def cH(hH:sT)(N:Nat):Code->a7->ae->Option (aJ×a7×ae)
 | .skip,aa,H=>D (.normal,aa,H)
 | .region _ ops d,aa,H=>match hH ops d aa H with
  |some (a6,H')=>D (.normal,a6,H')
  |none=>Z
 | .seq a b,aa,H=>match cH hH N a aa H with
  |some (.normal,a6,H')=>cH hH N b a6 H'
  |r=>r
 | .cond c a b,aa,H=>match b_ aa c with
  |some (.bool X)=>cH hH N a aa H
  |some (.bool U)=>cH hH N b aa H
  |_=>Z
 | .block id b,aa,H=>match cH hH N b aa H with
  |some (.exit e,a6,H')=>if e=id then D (.normal,a6,H')else D (.exit e,a6,H')
  |r=>r
 | .loop b,aa,H=>iter (λaa H=>cH hH N b aa H) N aa H
 | .exit id,aa,H=>D (.exit id,aa,H)
 | .ret,aa,H=>D (.ret,aa,H)
 | .label _,aa,H=>D (.normal,aa,H)
 |_,_,_=>Z
def a7.rW(t:bt ad):Nat->List ad->bt ad
 |_,[]=>t
 |i,v::a=>a7.rW (bt.put v (i+1) t i) (i+1) a
def a7.enter(n:Nat)(args:List ad):a7:=⟨a7.rW .leaf 0 args,args.length+(n-args.length)⟩
def pI(P:Program)(aa:a7)(H:ae):ResultVar->Option ad
 | .tmp t=>D (aa.get t)
 | .cell a t=>aq P H t (aa.get a)
def hy(P:Program)(aa:a7)(H:ae):List ResultVar->Option (List ad)
 |[]=>D []
 |r::rs=>match pI P aa H r,hy P aa H rs with
  |some v,D a=>D (v::a)
  |_,_=>Z
def mI:List ad->ad
 |[v]=>v
 |a=> .tuple a
def b9(P:Program)(aA:ay)(N:Nat):Nat->ay
 |0,_,_,_=>Z
 |n+1,f,args,H=>match aA f args H with
 |some r=>D r
 |none=>match P.funcs[f]? with
  |none=>Z
  |some fn=>match fn.body with
   |none=>Z
   |some c=>match cH (fp P (b9 P aA N n)) N c (a7.enter fn.ntmps args) H with
    |none=>Z
    |some (ex,aa,H')=>match ex with
     | .exit _=>Z
     |_=>match hy P aa H' fn.results.toList with
      |none=>Z
      |some a=>D (mI a,H')
section
variable {E:Env}{P:Program}{aA:ay}{call:ay}{hH:sT}{N:Nat}
def x2{ops:Array Oper}:∀{os:List Oper} {aa a6:a7} {H H':ae},hL P call ops os aa H=D (a6,H')->H.next<=H'.next
 |[],aa,a6,H,H',h=>by
  simp only[hL,aS,b5]at h;obtain⟨rfl,rfl⟩:=h;exact bm _
 |o::os,aa,a6,H,H',h=>by
  simp only[hL]at h;split at h
  ·cases h
  ·rename_i k a;split at h
   ·cases h
   ·exact Nat.le_trans (wS a) (x2 h)
def vy(hH:sT):Prop:=∀ops d aa H a6 H',hH ops d aa H=D (a6,H')->H.next<=H'.next
def EW:vy (fp P call):=by
 intro ops d aa H a6 H' h;unfold fp at h;split at h
 ·exact x2 h
 ·split at h
  ·cases h
  ·rename_i T c H1 a;split at h
   ·cases h
   ·split at h
    ·cases h
    ·simp only[aS,b5]at h;obtain⟨rfl,rfl⟩:=h;rw[(kW a).2.1];exact(rk a).le
def tl{f:a7->ae->Option (aJ×a7×ae)}(a:∀aa H ex a6 H',f aa H=D (ex,a6,H')->H.next<=H'.next):∀{n:Nat} {aa:a7} {H:ae} {ex:aJ} {a6:a7} {H':ae},
  iter f n aa H=D (ex,a6,H')->H.next<=H'.next
 |0,_,_,_,_,_,h=>by cases h
 |n+1,aa,H,ex,a6,H',h=>by
  simp only[iter]at h;split at h
  ·rename_i d H1 c;exact Nat.le_trans (a _ _ _ _ _ c) (tl a h)
  ·exact a _ _ _ _ _ h
def Al(n:vy hH):∀(c:Code) {aa:a7} {H:ae} {ex:aJ} {a6:a7} {H':ae},cH hH N c aa H=D (ex,a6,H')->H.next<=H'.next:=by
 intro c
 induction c with
 |skip=>intro aa H ex a6 H' h;simp only[cH,aS,b5]at h;obtain⟨_,_,rfl⟩:=h;exact bm _
 |region id ops d=>
  intro aa H ex a6 H' h;simp only[cH]at h;split at h
  ·rename_i m H1 e;simp only[aS,b5]at h;obtain⟨_,_,rfl⟩:=h;exact n _ _ _ _ _ _ e
  ·cases h
 |seq a b j k=>
  intro aa H ex a6 H' h;simp only[cH]at h;split at h
  ·rename_i m H1 e;exact Nat.le_trans (j e) (k h)
  ·exact j h
 |cond c a b j k=>
  intro aa H ex a6 H' h;simp only[cH]at h;split at h
  ·exact j h
  ·exact k h
  ·cases h
 |block id b i=>
  intro aa H ex a6 H' h;simp only[cH]at h;split at h
  ·rename_i o m H1 e;have:=i e;split at h<;>(simp only[aS,b5]at h;obtain⟨_,_,rfl⟩:=h;exact this)
  ·exact i h
 |loop b i=>
  intro aa H ex a6 H' h;simp only[cH]at h;exact tl (λ_ _ _ _ _ h=>i h) h
 |exit id=>intro aa H ex a6 H' h;simp only[cH,aS,b5]at h;obtain⟨_,_,rfl⟩:=h;exact bm _
 |ret=>intro aa H ex a6 H' h;simp only[cH,aS,b5]at h;obtain⟨_,_,rfl⟩:=h;exact bm _
 |label l=>intro aa H ex a6 H' h;simp only[cH,aS,b5]at h;obtain⟨_,_,rfl⟩:=h;exact bm _
 |goto l=>intro aa H ex a6 H' h;cases h
 |scope b i=>intro aa H ex a6 H' h;cases h
 |rangeFunc f p a b j k=>intro aa H ex a6 H' h;cases h
 |refuse y=>intro aa H ex a6 H' h;cases h
def Ft(u:jC E P call){ops:Array Oper}{Q:Exit->Act->World->Prop}:∀{os:List Oper} {aa a6:a7} {H H':ae} {ρ:Env} {w:World} {a:Act},hL P call ops os aa H=D (a6,H')->
  Rel ρ H w->h_ E ρ H.next H'.next->dT ρ aa a->(∀d b4 c,dT d a6 b4->Step ρ H w d H' c->Q .normal b4 c)->wpList P ops Q os a w
 |[],aa,a6,H,H',ρ,w,a,h,e,_,i,q=>by
  simp only[hL,aS,b5]at h;obtain⟨rfl,rfl⟩:=h;exact q ρ a w i (.refl e)
 |o::os,aa,a6,H,H',ρ,w,a,h,e,s,i,q=>by
  simp only[hL]at h;split at h
  ·cases h
  ·rename_i k z;split at h
   ·cases h
   ·rename_i ag B;have A:=x2 h;have ah:=wS z;have go:∀x c d,bj d k.val x->Step ρ H w d (k.heap H) c->wpList P ops Q os (a.put o.dst x) c:=λx c d m aB=>
     Ft u h aB.rel (s.after aB) ((i.mono aB.le).put B m) λab a2 W n p=>q ab a2 W n (aB.trans p)
    unfold wpList;rw[zi i o];rcases pZ z with⟨hw,j⟩|⟨hw,rfl⟩
    ·rw[hw];simp only[if_true];refine .inl ?_;cases k with
     |skip=>exact j.elim
     |pure v=>exact Ey j i λx m=>go x w ρ m (.refl e)
     |read v=>exact EU e j i λx m=>go x w ρ m (.refl e)
     |new v b=>
      have y:ρ H.next=none:=s.new _ (bm _) (by simp only[K.heap,ae.b8]at A;omega)
      refine DZ j i y λx c d loc aT M N O R S hp T V F G L=>go x c d aT ?_
      have m0:e3 ρ H w (H.next+1) (λ_=>Z) ρ H w:=e3.start e λl n p=>by
       have:l=H.next:=af
       rw[this];exact y
      have m1:=m0.early (bm _) af rfl M N O R S hp T V F G L;exact(m1.GQ (b:=b) (by simp)).done rfl
     |ea v ad=>
      exact Ai u e (s.left A) j i λx c d n p=>go x c d n p
    ·rw[hw];simp only[Bool.false_eq_true,if_false];exact go undef w ρ (.tuple [] [] .nil) (.refl e)
def yQ(E:Env)(P:Program)(hH:sT):Prop:=∀(id:Nat) (ops:Array Oper) (d:Bool) (aa:a7) (H:ae) (a6:a7) (H':ae),hH ops d aa H=D (a6,H')->(d=X->qb ops (dJ ops) (order ops)=X)->∀(ρ:Env) (w:World) (a:Act) (Q:Exit->Act->World->Prop),Rel ρ H w->h_ E ρ H.next H'.next->dT ρ aa a->(∀e b4 c,dT e a6 b4->Step ρ H w e H' c->Q .normal b4 c)->(Code.region id ops d).wp P Q a w
def EX(hm:P.follows .mixedOrders=X)(i:jC E P call):yQ E P (fp P call):=by
 intro id ops d aa H a6 H' h m ρ w a Q e j k c;unfold fp at h;split at h
 ·exact wp_region_list (Ft i h e j k c)
 ·split at h
  ·cases h
  ·rename_i T p H1 l;split at h
   ·cases h
   ·rename_i n;split at h
    ·cases h
    ·rename_i o;simp only[aS,b5]at h;obtain⟨rfl,rfl⟩:=h;exact Qa hm i ⟨l,m rfl,n,o⟩ e j k c
def Qb{c:Code}{Q:Exit->Act->World->Prop}(p:Nat->Act->World->Prop)(round:∀n a w,p n a w->∃m,n=m+1/\c.wp P (Exit.then (p m) Q) a w){n:Nat}{a:Act}{w:World}(z:p n a w):(Code.loop c).wp P Q a w:=by
 intro b k cs;have key:∀n a w,p n a w->∃e b4 q,Q e b4 q/\Arrives P (lone (b.at a (.code c:: .inLoop c::k)) cs w) b k cs e b4 q:=by
  intro n
  induction n with
  |zero=>intro a w h;obtain⟨m,hm,_⟩:=round 0 a w h;omega
  |succ n A=>
   intro a w h;obtain⟨m,hm,hw⟩:=round _ a w h;obtain rfl:m=n:=af;obtain⟨e,j,o,i,d⟩:=hw b (.inLoop c::k) cs;cases e with
   |normal=>
    obtain⟨u,s,B,y,v⟩:=A j o i;exact⟨u,s,B,y,.of_steps (Steps.trans d (.one step_inLoop)) v⟩
   |exit id=>exact⟨_,j,o,i,.pass (x:= .inLoop c) rfl (λ_ _=> .inl (by simp)) d⟩
   |goto l=>exact⟨_,j,o,i,.pass (x:= .inLoop c) rfl (λ_ _=> .inl (by simp)) d⟩
   |ret=>exact⟨_,j,o,i,.pass (x:= .inLoop c) rfl (λ_ _=> .inl (by simp)) d⟩
   |panic E=>exact⟨_,j,o,i,.pass (x:= .inLoop c) rfl (λ_ _=> .inl (by simp)) d⟩
   |outgrown=>exact⟨_,j,o,i,.pass (x:= .inLoop c) rfl (λ_ _=> .inl (by simp)) d⟩
 obtain⟨e,b4,q,i,d⟩:=key _ a w z;exact⟨e,b4,q,i,.of_steps (.one step_loop) d⟩
def vi(E:Env)(P:Program)(c:Code)(f:a7->ae->Option (aJ×a7×ae)):Prop:=∀(aa:a7) (H:ae) (ex:aJ) (a6:a7) (H':ae),f aa H=D (ex,a6,H')->∀(ρ:Env) (w:World) (a:Act) (Q:Exit->Act->World->Prop),Rel ρ H w->h_ E ρ H.next H'.next->dT ρ aa a->(∀e b4 d,dT e a6 b4->Step ρ H w e H' d->Q ex.wi b4 d)->c.wp P Q a w
def Kq{c:Code}{f:a7->ae->Option (aJ×a7×ae)}(l:vi E P c f)(o:∀aa H ex a6 H',f aa H=D (ex,a6,H')->H.next<=H'.next)(n:Nat):vi E P (.loop c) (iter f n):=by
 intro aa H ex a6 H' h ρ w a Q y m B x;refine Qb (n:=n) (λn aQ i=>∃j H1 e,iter f n j H1=D (ex,a6,H')/\Step ρ H w e H1 i/\dT e j aQ) ?_ ⟨aa,H,ρ,h,.refl y,B⟩;rintro n aQ i ⟨j,H1,e,d,aB,p⟩;cases n with
 |zero=>cases d
 |succ n=>
  refine⟨n,rfl,?_⟩;have hle:=tl o d;simp only[iter]at d;split at d
  ·rename_i u s v;have z:=tl o d;refine l _ _ _ _ _ v e i aQ _ aB.rel (h_.left (h_.after m aB) z) p λk a2 q g1 g2=> ?_
   exact⟨u,s,k,d,aB.trans g2,g1⟩
  ·rename_i A;refine l _ _ _ _ _ d e i aQ _ aB.rel (h_.after m aB) p λk a2 q g1 g2=> ?_
   have:=x k a2 q g1 (aB.trans g2);cases ex with
   |normal=>exact absurd d (A _ _)
   |exit id=>exact this
   |ret=>exact this
def An(B:vy hH)(G:yQ E P hH):∀(c:Code),kq c=X->vi E P c (cH hH N c):=by
 intro c
 induction c with
 |skip=>
  intro _ aa H ex a6 H' h ρ w a Q j k e i;simp only[cH,aS,b5]at h;obtain⟨rfl,rfl,rfl⟩:=h;exact wp_skip (i ρ a w e (.refl j))
 |region id ops d=>
  intro aC aa H ex a6 H' h ρ w a Q j k e i;simp only[cH]at h;split at h
  ·rename_i A H1 m;simp only[aS,b5]at h;obtain⟨rfl,rfl,rfl⟩:=h;exact G id ops d aa H _ _ m (λF=>by subst F;exact aC) ρ w a Q j k e i
  ·cases h
 |seq x y q s=>
  intro aC aa H ex a6 H' h ρ w a Q j k e i;simp only[kq,Bool.and_eq_true]at aC;simp only[cH]at h;refine wp_seq ?_;split at h
  ·rename_i A H1 m;have hle:=Al B y h;refine q aC.1 _ _ _ _ _ m ρ w a _ j (k.left hle) e λo aQ n g1 g2=> ?_
   exact s aC.2 _ _ _ _ _ h o n aQ Q g2.rel (k.after g2) g1 λM a2 L g3 g4=>i M a2 L g3 (g2.trans g4)
  ·rename_i v;refine q aC.1 _ _ _ _ _ h ρ w a _ j k e λo aQ n g1 g2=> ?_
   have:=i o aQ n g1 g2;cases ex with
   |normal=>exact absurd h (v _ _)
   |exit id=>exact this
   |ret=>exact this
 |cond c x y q s=>
  intro aC aa H ex a6 H' h ρ w a Q j k e i;simp only[kq,Bool.and_eq_true]at aC;simp only[cH]at h;split at h
  ·rename_i u;have m:=dx e u;refine wp_cond_true (by generalize a.eval c=z at m;cases m;rfl) ?_;exact q aC.1 _ _ _ _ _ h ρ w a Q j k e i
  ·rename_i u;have m:=dx e u;refine wp_cond_false (by generalize a.eval c=z at m;cases m;rfl) ?_;exact s aC.2 _ _ _ _ _ h ρ w a Q j k e i
  ·cases h
 |block id b p=>
  intro aC aa H ex a6 H' h ρ w a Q j k e i;simp only[cH]at h;refine wp_block ?_;split at h
  ·rename_i K A H1 m;split at h
   ·rename_i hid;simp only[aS,b5]at h;obtain⟨rfl,rfl,rfl⟩:=h;refine p aC _ _ _ _ _ m ρ w a _ j k e λo aQ n g1 g2=> ?_
    have:=i o aQ n g1 g2;simp only[aJ.wi,Exit.inBlock,hid,if_true];exact this
   ·rename_i hid;simp only[aS,b5]at h;obtain⟨rfl,rfl,rfl⟩:=h;refine p aC _ _ _ _ _ m ρ w a _ j k e λo aQ n g1 g2=> ?_
    have:=i o aQ n g1 g2;simp only[aJ.wi,Exit.inBlock,hid,if_false];exact this
  ·rename_i v;refine p aC _ _ _ _ _ h ρ w a _ j k e λo aQ n g1 g2=> ?_
   have:=i o aQ n g1 g2;cases ex with
   |normal=>exact this
   |exit K=>exact absurd h (v _ _ _)
   |ret=>exact this
 |loop b p=>
  intro aC aa H ex a6 H' h ρ w a Q j k e i;simp only[cH]at h;exact Kq (p aC) (λ_ _ _ _ _ h=>Al B b h) N aa H ex a6 H' h ρ w a Q j k e i
 |exit id=>
  intro _ aa H ex a6 H' h ρ w a Q j k e i;simp only[cH,aS,b5]at h;obtain⟨rfl,rfl,rfl⟩:=h;exact wp_exit (i ρ a w e (.refl j))
 |ret=>
  intro _ aa H ex a6 H' h ρ w a Q j k e i;simp only[cH,aS,b5]at h;obtain⟨rfl,rfl,rfl⟩:=h;exact wp_ret (i ρ a w e (.refl j))
 |label l=>
  intro _ aa H ex a6 H' h ρ w a Q j k e i;simp only[cH,aS,b5]at h;obtain⟨rfl,rfl,rfl⟩:=h;exact wp_label (i ρ a w e (.refl j))
 |goto l=>intro _ aa H ex a6 H' h;cases h
 |scope b p=>intro _ aa H ex a6 H' h;cases h
 |rangeFunc f O a b q s=>intro _ aa H ex a6 H' h;cases h
 |refuse y=>intro _ aa H ex a6 H' h;cases h
def xn:∀(args:List ad) (t:bt ad) (i d:Nat),(a7.rW t i args).get d=if i<=d/\d<i+args.length then args[d-i]? else t.get d
 |[],t,i,d=>by simp only[a7.rW,List.length_nil];rw[if_neg af]
 |v::e,t,i,d=>by
  simp only[a7.rW];rw[xn e];by_cases a:i+1<=d/\d<i+1+e.length
  ·rw[if_pos a,if_pos (by simp;omega),show d-i=(d-(i+1))+1 by omega];simp
  ·rw[if_neg a];by_cases c:d=i
   ·subst c;rw[bt.rE _ _ _ _ af,if_pos (by simp)];simp
   ·rw[bt.rD _ _ _ _ _ (Ne.symm c),if_neg (by simp;omega)]
def Aj{ρ:Env}{args:List ad}{xs:List Value}(h:bB ρ args xs)(n:Nat):dT ρ (a7.enter n args) {tmps:=xs.toArray++Array.replicate (n-xs.toArray.size) undef,defers:=[]}:=by
 have i:=h.length;refine⟨by simp[a7.enter,i],λd=> ?_,rfl⟩;unfold a7.get a7.enter;simp only
 rw[xn];rw[Array.getD_eq_getD_getElem?];by_cases e:d<args.length
 ·rw[if_pos af];obtain⟨v,c⟩:∃v,args[d]? =D v:=⟨args[d],by simp[e]⟩;obtain⟨x,k,j⟩:=h.get d v c;have a:(xs.toArray++Array.replicate (n-xs.toArray.size) undef)[d]? =D x:=by
   rw[Array.getElem?_append_left (by simp;omega)];simpa using k
  rw[a];simp only[Nat.sub_zero,c,Option.getD_some];exact j
 ·rw[if_neg af];have a:((xs.toArray++Array.replicate (n-xs.toArray.size) undef)[d]?).getD undef=undef:=by
   rw[Array.getElem?_append_right (by simp;omega)];simp only[Array.getElem?_replicate];split<;>rfl
  rw[a,bt.rA];exact .tuple [] [] .nil
def sg(tmps:Array Value):ResultVar->Sem Value
 | .tmp t=>pure (tmps.getD t undef)
 | .cell b t=>do loadVar t (<-asAddr (tmps.getD b undef))
def IC{ρ:Env}{H:ae}{w:World}{aa:a7}{a:Act}(m:Rel ρ H w)(e:dT ρ aa a){r:ResultVar}{v:ad}(h:pI P aa H r=D v):
  ∃x,(sg a.tmps r).run P w= .ok x w/\bj ρ v x:=by
 cases r with
 |tmp t=>
  simp only[pI,aS]at h;subst h;exact⟨_,rfl,e.get t⟩
 |cell b t=>
  simp only[pI]at h;obtain⟨x,j,k⟩:=vL m h (e.get b);refine⟨x,?_,k⟩;have d:=e.get b;simp only[sg];generalize a.tmps.getD b undef=z at d j ⊢;have aC:∃l i c,aa.get b= .ptr l i c:=by
   generalize aa.get b=u at h;unfold aq at h;cases u<;>first|exact⟨_,_,_,rfl⟩|(exfalso;simp at h)
  obtain⟨l,i,c,aC⟩:=aC;rw[aC]at d;cases d;simpa [Instr.loadAt,Instr.sureAddr,asAddr]using j
def za{ρ:Env}{H:ae}{w:World}{aa:a7}{a:Act}(d:Rel ρ H w)(e:dT ρ aa a):∀{rs:List ResultVar} {c:List ad},hy P aa H rs=D c->
  ∃xs:List Value,(rs.mapM (sg a.tmps)).run P w= .ok xs w/\bB ρ c xs
 |[],c,h=>by simp only[hy,aS]at h;subst h;exact⟨[],by simp[Sem.run_pure],.nil⟩
 |r::rs,c,h=>by
  simp only[hy]at h;split at h
  ·rename_i v o m n;simp only[aS]at h;subst h;obtain⟨x,i,j⟩:=IC d e m;obtain⟨xs,k,l⟩:=za d e n;refine⟨x::xs,?_,.cons _ _ _ _ j l⟩;rw[List.mapM_cons];simp only[Sem.run_bind,Result.andThen_ok,Sem.run_pure,i,k]
  ·cases h
def LS(fn:Func)(tmps:Array Value):results fn tmps=(do
  let a<-fn.results.mapM (sg tmps)
  pure (if h:a.size=1 then a[0]else .tuple a)):=by
 unfold results
 congr 1
def E0{ρ:Env}{H:ae}{w:World}{aa:a7}{a:Act}(m:Rel ρ H w)(n:dT ρ aa a){fn:Func}{d:List ad}(h:hy P aa H fn.results.toList=D d):
  ∃x,(results fn a.tmps).run P w= .ok x w/\bj ρ (mI d) x:=by
 obtain⟨xs,e,i⟩:=za m n h;have hm:(fn.results.mapM (sg a.tmps)).run P w= .ok xs.toArray w:=by
  rw[Array.mapM_eq_mapM_toList];simp only[Sem.run_map,e,Result.andThen_ok]
 refine⟨if h:xs.toArray.size=1 then xs.toArray[0]else .tuple xs.toArray,?_,?_⟩
 ·rw[LS];simp only[Sem.run_bind,hm,Result.andThen_ok,Sem.run_pure]
 ·cases i with
  |nil=>exact .tuple [] [] .nil
  |cons v x p u c j=>
   cases j with
   |nil=>exact c
   |cons o s q y k l=>
    simp only[mI];rw[dif_neg (by simp)];exact .tuple _ _ (.cons _ _ _ _ c (.cons _ _ _ _ k l))
structure n3(P:Program):Prop where
 mixed:P.follows .mixedOrders=true
 names:∀fn∈P.funcs,(fn.name== "runtime.NumGoroutine")=false
 Et:∀(f:Nat) (fn:Func) (c:Code),P.funcs[f]? =some fn->fn.body=some c->kq c=true
def Ao(a:n3 P)(l:jC E P aA):∀n,jC E P (b9 P aA N n)
 |0=>λg args H v H' h=>by cases h
 |n+1=>by
  intro g args H v H' h ρ w xs m p o B next q
  simp only[b9]at h;split at h
  ·rename_i r K;cases h;exact l g args H v H' K ρ w xs m p o B next q
  split at h
  ·cases h
  ·rename_i fn d;split at h
   ·cases h
   ·rename_i c i;split at h
    ·cases h
    ·rename_i ex aa H1 z;have O:=Ao a l n;have y:=An (N:=N) EW (EX a.mixed O) c (a.Et _ _ _ d i);have F:(fn.name== "runtime.NumGoroutine")=false:=a.names fn (Array.mem_of_getElem? d);have L:(callFunc g xs.toArray).run P w= .ok (.enter g xs.toArray) w:=by
      unfold callFunc;simp[d,i];intro A;simp[A]at F
     unfold mE;rw[L];simp only
     split at h
     ·cases h
     ·rename_i G;split at h
      ·cases h
      ·rename_i S M;simp only[aS,b5]at h;obtain⟨rfl,rfl⟩:=h;refine calls_of_wp d i (y _ _ _ _ _ z ρ w _ _ m p (Aj o fn.ntmps) λR b4 Q e k=> ?_);obtain⟨x,j,u⟩:=E0 k.rel e M;have s:=q x Q R u k;cases ex with
       |normal=>exact⟨e.none,x,j,s⟩
       |ret=>exact⟨e.none,x,j,s⟩
       |exit id=>exact absurd rfl (G id)
end
section
variable {E:Env}{P:Program}{aA:ay}
def n1(P:Program)(aA:ay)(f:Nat)(args:List ad)(H:ae)(r:ad×ae):Prop:=∃k,∀N,k<=N->∀n,k<=n->b9 P aA N n f args H=D r
def n1.uniq{f:Nat}{args:List ad}{H:ae}{r s:ad×ae}(h:n1 P aA f args H r)(a1:n1 P aA f args H s):r=s:=by
 obtain⟨k,d⟩:=h;obtain⟨j,c⟩:=a1;have a:=d (max k j) (Nat.le_max_left ..) (max k j) (Nat.le_max_left ..);rw[c (max k j) (Nat.le_max_right ..) (max k j) (Nat.le_max_right ..)]at a;exact(Option.some.inj a).symm
open Classical in
noncomputable def aE(P:Program)(aA:ay):ay:=λf args H=>if h:∃r,n1 P aA f args H r then D h.choose else Z
def Aq{f:Nat}{args:List ad}{H:ae}{r:ad×ae}(h:aE P aA f args H=D r):n1 P aA f args H r:=by
 unfold aE at h;split at h
 ·rename_i a;rw[<-Option.some.inj h];exact a.choose_spec
 ·cases h
def Df{f:Nat}{args:List ad}{H:ae}{r:ad×ae}(h:n1 P aA f args H r):aE P aA f args H=D r:=by
 unfold aE;have a:∃r,n1 P aA f args H r:=⟨r,h⟩;rw[dif_pos a];exact congrArg D (a.choose_spec.uniq h)
def Jq(c:n3 P)(a:jC E P aA):jC E P (aE P aA):=by
 intro g args H v H' h;obtain⟨k,d⟩:=Aq h;exact Ao c a k g args H v H' (d k (bm _) k (bm _))
def Pu{o:Op}{aa:a7}{H:ae}{x:K}(h:step1 P (aE P aA) o aa H=D x):∃k,∀N,k<=N->∀n,k<=n->step1 P (b9 P aA N n) o aa H=D x:=by
 unfold step1 at h;unfold step1;split at h
 ·exact⟨0,λ_ _ _ _=>h⟩
 ·exact⟨0,λ_ _ _ _=>h⟩
 ·exact⟨0,λ_ _ _ _=>h⟩
 ·exact⟨0,λ_ _ _ _=>h⟩
 ·exact⟨0,λ_ _ _ _=>h⟩
 ·split at h
  ·split at h
   ·rename_i g j d;cases a:aE P aA g j H with
    |none=>rw[a]at h;cases h
    |some r=>
     obtain⟨k,e⟩:=Aq a;refine⟨k,λN c n i=> ?_⟩;rw[a]at h;simp only[d,e N c n i];exact h
   ·cases h
  ·cases h
def CT{ops:Array Oper}{o:Oper}{aa:a7}{H:ae}{x:K}(h:hD P (aE P aA) ops o aa H=D x):∃k,∀N,k<=N->∀n,k<=n->hD P (b9 P aA N n) ops o aa H=D x:=by
 unfold hD at h;unfold hD;split at h
 ·rename_i hw;obtain⟨k,c⟩:=Pu h;exact⟨k,λN a n d=>c N a n d⟩
 ·exact⟨0,λ_ _ _ _=>h⟩
def Fs{ops:Array Oper}:∀{os:List Oper} {aa:a7} {H:ae} {x:a7×ae},hL P (aE P aA) ops os aa H=D x->∃k,∀N,k<=N->∀n,k<=n->hL P (b9 P aA N n) ops os aa H=D x
 |[],aa,H,x,h=>⟨0,λ_ _ _ _=>h⟩
 |o::os,aa,H,x,h=>by
  simp only[hL]at h;split at h
  ·cases h
  ·rename_i y e;split at h
   ·cases h
   ·rename_i a6 a;obtain⟨k,d⟩:=CT e;obtain⟨j,c⟩:=Fs h;refine⟨max k j,λN i n l=> ?_⟩;simp only[hL,d N af n af,a,c N af n af]
def zZ{ops:Array Oper}:∀{is:List Nat} {aa:a7} {H:ae} {x:List bN×a7×ae},canRun P (aE P aA) ops is aa H=D x->∃k,∀N,k<=N->∀n,k<=n->canRun P (b9 P aA N n) ops is aa H=D x
 |[],aa,H,x,h=>⟨0,λ_ _ _ _=>h⟩
 |i::is,aa,H,x,h=>by
  simp only[canRun]at h;split at h
  ·cases h
  ·rename_i o l;split at h
   ·cases h
   ·rename_i y m;split at h
    ·cases h
    ·rename_i a6 a;split at h
     ·cases h
     ·rename_i T cE bP c;obtain⟨k,e⟩:=CT m;obtain⟨j,d⟩:=zZ c;refine⟨max k j,λN p n q=> ?_⟩;simp only[canRun,l,e N af n af,a,d N af n af];exact h
def LO{ops:Array Oper}{d:Bool}{aa:a7}{H:ae}{x:a7×ae}(h:fp P (aE P aA) ops d aa H=D x):∃k,∀N,k<=N->∀n,k<=n->fp P (b9 P aA N n) ops d aa H=D x:=by
 unfold fp at h;unfold fp;split at h
 ·obtain⟨k,c⟩:=Fs h;exact⟨k,λN a n e=>c N a n e⟩
 ·split at h
  ·cases h
  ·rename_i T a6 H' i;obtain⟨k,c⟩:=zZ i;refine⟨k,λN a n e=> ?_⟩;simp only[c N a n e];exact h
def CO{f:a7->ae->Option (aJ×a7×ae)}:∀{n m:Nat} {aa:a7} {H:ae} {x:aJ×a7×ae},iter f n aa H=D x->n<=m->iter f m aa H=D x
 |0,_,_,_,_,h,_=>by cases h
 |n+1,0,_,_,_,_,hm=>af
 |n+1,m+1,aa,H,x,h,hm=>by
  simp only[iter]at h ⊢;split at h
  ·rename_i a6 H' he;exact CO h af
  ·exact h
def CN{f:a7->ae->Option (aJ×a7×ae)}{g:Nat->Nat->a7->ae->Option (aJ×a7×ae)}(a:∀aa H x,f aa H=D x->∃k,∀N,k<=N->∀n,k<=n->g N n aa H=D x):
  ∀{M:Nat} {aa:a7} {H:ae} {x:aJ×a7×ae},iter f M aa H=D x->∃k,∀N,k<=N->∀n,k<=n->iter (g N n) M aa H=D x
 |0,_,_,_,h=>by cases h
 |M+1,aa,H,x,h=>by
  simp only[iter]at h;split at h
  ·rename_i a6 H' he;obtain⟨k,c⟩:=a _ _ _ he;obtain⟨j,i⟩:=CN a h;refine⟨max k j,λN d n e=> ?_⟩;simp only[iter,c N af n af];exact i N af n af
  ·rename_i l;obtain⟨k,c⟩:=a _ _ _ h;refine⟨k,λN d n e=> ?_⟩;simp only[iter,c N d n e];split
   ·rename_i a6 H' he;cases he;exact absurd h (l _ _)
   ·rfl
def Jo{M:Nat}:∀(c:Code) {aa:a7} {H:ae} {x:aJ×a7×ae},cH (fp P (aE P aA)) M c aa H=D x->∃k,∀N,k<=N->∀n,k<=n->cH (fp P (b9 P aA N n)) N c aa H=D x:=by
 intro c
 induction c with
 |skip=>intro aa H x h;exact⟨0,λ_ _ _ _=>h⟩
 |region id ops d=>
  intro aa H x h;simp only[cH]at h;split at h
  ·rename_i w H1 o;obtain⟨k,e⟩:=LO o;refine⟨k,λN i n m=> ?_⟩;simp only[cH,e N i n m];exact h
  ·cases h
 |seq a b q s=>
  intro aa H x h;simp only[cH]at h;split at h
  ·rename_i w H1 o;obtain⟨k,e⟩:=q o;obtain⟨j,z⟩:=s h;refine⟨max k j,λN i n m=> ?_⟩;simp only[cH,e N af n af,z N af n af]
  ·rename_i v;obtain⟨k,e⟩:=q h;refine⟨k,λN i n m=> ?_⟩;simp only[cH,e N i n m];split
   ·rename_i a6 H' he;cases he;exact absurd h (v _ _)
   ·rfl
 |cond c a b q s=>
  intro aa H x h;simp only[cH]at h;split at h
  ·rename_i u;obtain⟨k,e⟩:=q h;refine⟨k,λN i n m=> ?_⟩;simp only[cH,u,e N i n m]
  ·rename_i u;obtain⟨k,e⟩:=s h;refine⟨k,λN i n m=> ?_⟩;simp only[cH,u,e N i n m]
  ·cases h
 |block id b p=>
  intro aa H x h;simp only[cH]at h;split at h
  ·rename_i B w H1 o;obtain⟨k,e⟩:=p o;refine⟨k,λN i n m=> ?_⟩;simp only[cH,e N i n m];exact h
  ·rename_i v;obtain⟨k,e⟩:=p h;refine⟨k,λN i n m=> ?_⟩;simp only[cH,e N i n m];split
   ·rename_i B a6 H' he;cases he;exact absurd h (v _ _ _)
   ·rfl
 |loop b p=>
  intro aa H x h;simp only[cH]at h;obtain⟨k,e⟩:=CN (g:=λN n=>cH (fp P (b9 P aA N n)) N b) (λaa H x A=>p A) h;refine⟨max k M,λN i n m=> ?_⟩;simp only[cH];exact CO (e N af n af) af
 |exit id=>intro aa H x h;exact⟨0,λ_ _ _ _=>h⟩
 |ret=>intro aa H x h;exact⟨0,λ_ _ _ _=>h⟩
 |label l=>intro aa H x h;exact⟨0,λ_ _ _ _=>h⟩
 |goto l=>intro aa H x h;cases h
 |scope b p=>intro aa H x h;cases h
 |rangeFunc f E a b q s=>intro aa H x h;cases h
 |refuse y=>intro aa H x h;cases h
def Ap{f:Nat}{args:List ad}{H H':ae}{fn:Func}{c:Code}{M:Nat}{ex:aJ}{aa:a7}{d:List ad}(e:aA f args H=Z)(j:P.funcs[f]? =D fn)(i:fn.body=D c)
  (h:cH (fp P (aE P aA)) M c (a7.enter fn.ntmps args) H=D (ex,aa,H')) (hex:∀id,ex≠ .exit id) (a:hy P aa H' fn.results.toList=D d):aE P aA f args H=D (mI d,H'):=by
 obtain⟨k,l⟩:=Jo c h;refine Df ⟨k+1,λN m n o=> ?_⟩;cases n with
 |zero=>omega
 |succ n=>
  simp only[b9,e,j,i,l N af n af];cases ex with
  |exit id=>exact absurd rfl (hex id)
  |normal=>simp only[a]
  |ret=>simp only[a]
def mO{f:Nat}{args:List ad}{H:ae}{r:ad×ae}(h:aA f args H=D r):aE P aA f args H=D r:=by
 refine Df ⟨1,λN a n c=> ?_⟩;cases n with
 |zero=>omega
 |succ n=>simp only[b9,h]
end
abbrev O:=Option (ad×ae)
abbrev cE:=Nat->ad
def ey(aa:cE)(dst:Option Nat)(v:ad):cE:=match dst with
 |none=>aa
 |some d=>λe=>bif Nat.beq e d then v else aa e
def du(aa:cE):Operand->Option ad
 | .tmp t=>D (aa t)
 | .const v=>rY v
 | .global _=>Z
 | .func f=>D (.func (.func f) [] [])
def lT(aa:cE):List Operand->Option (List ad)
 |[]=>D []
 |x::xs=>(du aa x).bind λv=>(lT aa xs).bind λa=>D (v::a)
def ru(aa:cE):List (Nat×Operand)->Option (List (Nat×ad))
 |[]=>D []
 |(i,x)::xs=>(du aa x).bind λv=>(ru aa xs).bind λa=>D ((i,v)::a)
def rv(aa:cE):Option Operand->Option (Option ad)
 |none=>D Z
 |some x=>(du aa x).bind λv=>D (D v)
def dd(c:ad)(a b:Option ad):Option ad:=match c with
 | .bool t=>bif t then a else b
 |_=>Z
def ta(P:Program)(t:TypeId)(c:Bool)(a b:ad):Bool:=
 match a,b with
 | .nilIface,.nilIface=>c
 | .agg _,.agg _=> !P.eqGuardType P.depth t
 |_,_=>X
def ao(P:Program)(op:BinOp)(t:TypeId)(c:Bool)(x y:ad):Option ad:=
 match x,y with
 | .int k a,.int d b=>
  (match op with
  | .shl=>pV .shl k a b
  | .shr=>pV .shr k a b
  |op=>if k=d then hT op k a b else Z)
 | .str a,.str b=>sE op a b
 |x,y=>
  (match op with
  | .eql=>if ta P t c x y then(kc P 10000 t x y).map .bool else Z
  | .neq=>if ta P t c x y then(kc P 10000 t x y).map λb=> .bool (!b)else Z
  |_=>Z)
def Jn(P:Program)(t:TypeId)(x y:Operand)(u v:ad):ta P t (isConst x||isConst y) u v=oo P t x y u v:=by
 unfold ta oo;cases u<;>cases v<;>rfl
def Jt(P:Program)(op:BinOp)(t:TypeId)(x y:Operand)(u v:ad):ao P op t (isConst x||isConst y) u v=q8 P op t x y u v:=by
 unfold ao q8;simp only[Jn];cases u<;>cases v<;>cases op<;>rfl
def te(P:Program)(o:Op)(aa:cE):Option ad:=
 match o with
 | .move x=>du aa x
 | .assign x=>du aa x
 | .pick c a b=>(du aa c).bind λu=>dd u (du aa a) (du aa b)
 | .build t n=>(ru aa n.toList).bind (cC P t)
 | .nilCheck x=>(du aa x).bind b7
 | .binOp op t x y _=>(du aa x).bind λu=>(du aa y).bind λv=>ao P op t (isConst x||isConst y) u v
 | .unOp op _ x=>(du aa x).bind (fZ op)
 | .convert s d x=>(du aa x).bind (mG P s d)
 | .makeInterface t x=>(du aa x).bind (vJ P t)
 | .makeFunc fn f c=>(lT aa f.toList).bind λe=>(lT aa c.toList).bind λcs=>D (.func fn e cs)
 | .slice t x lo j k=>(du aa x).bind λv=>(rv aa lo).bind λl=>(rv aa j).bind λh=>(rv aa k).bind λm=>kd P t v l h m
 | .fieldAddr t x f=>(du aa x).bind λv=>aH P t v f
 | .field t x f=>(du aa x).bind λv=>cN P t v f
 | .indexAddr t x i=>(du aa x).bind λu=>(du aa i).bind λv=>cl P t u v
 | .index t x i=>(du aa x).bind λu=>(du aa i).bind λv=>eT P t u v
 | .extract x i=>(du aa x).bind λv=>ic v i
 | .typeAssert x _ t ok=>(du aa x).bind (vB P t ok)
 | .call c=>match c.callee with
  | .builtin b=>(lT aa c.args.toList).bind (cg P .empty b c.argTypes.toList)
  |_=>Z
 |_=>Z
def pT(P:Program)(o:Op)(aa:cE)(H:ae):Option ad:=
 match o with
 | .load t x=>(du aa x).bind (aq P H t)
 | .lookup t x k ok=>(du aa x).bind λu=>(du aa k).bind λv=>sZ P H t u v ok
 | .convert s d x=>(du aa x).bind (n7 P H s d)
 | .call c=>match c.callee with
  | .builtin b=>(lT aa c.args.toList).bind (cg P H b c.argTypes.toList)
  |_=>Z
 |_=>Z
def d_(l:Nat)(v:ad):Option (ad×bW):=bif v.cells.all ad.one then D (.ptr l 0 0,.row U v.cells.length [v.cells])else Z
def pK(ot:Option TypeId)(l:Nat)(v:ad):Option (ad×bW):=bif v.cells.all ad.one then D (.ptr l 0 0,dK ot v.cells.length [v.cells])else Z
def b6(P:Program)(l:Nat)(t:TypeId)(len:Nat)(parts:List (Nat×ad)):Option (ad×bW):=
 match P.underlying t with
 |some (.slice e)=>
  (match cA P e,eU P e with
  |some a,D z=>
   bif decide (len*a<=16777216/\z.cells.length=a/\z.cells.all ad.one=X)then
    (je a (List.replicate len z.cells) parts).bind λels=>D (.aD l 0 len a (D len),.row U a els)
   else Z
  |_,_=>Z)
 |_=>Z
def wy(P:Program)(o:Op)(aa:cE)(l:Nat):Option (ad×bW):=
 match o with
 | .alloc t=>(eU P t).bind (pK (p8 P t) l)
 | .box t x=>(du aa x).bind (pK (p8 P t) l)
 | .buildSlice t n a=>(ru aa a.toList).bind (b6 P l t n)
 | .makeMap _ Z=>D (.map l,.map [])
 | .makeSlice t x c=>(du aa x).bind λu=>(du aa c).bind λv=>oF (s3 P ⟨.leaf,l⟩ t u v) l
 |_=>Z
def wC(P:Program)(o:Op)(aa:cE)(H:ae):Option (ad×ae):=
 match o with
 | .store t x y=>(du aa x).bind λu=>(du aa y).bind λv=>(aY P H t u v).bind λH'=>D (.tuple [],H')
 | .mapUpdate t m k x=>(du aa m).bind λu=>(du aa k).bind λv=>(du aa x).bind λz=>(pG P H t u v z).bind λH'=>D (.tuple [],H')
 | .insert t m k x=>(du aa m).bind λu=>(du aa k).bind λv=>(du aa x).bind λz=>(pG P H t u v z).bind λH'=>D (.tuple [],H')
 | .call c=>match c.callee,c.args.toList with
  | .builtin .append,[s,x]=>(du aa s).bind λu=>(du aa x).bind λv=>c0 P H c.argTypes.toList u v
  | .builtin .clear,[x]=>(du aa x).bind λu=>(sX P H c.argTypes.toList u).bind λH'=>D (.tuple [],H')
  |_,_=>Z
 |_=>Z
def zY(f:ad)(a:List ad):Option (Nat×List ad):=match f with
 | .func (.func g) first captured=>D (g,first++a++captured)
 |_=>Z
def DU(P:Program)(H:ae)(r:ad)(name:String)(a:List ad):Option (Nat×List ad):=(pH P H r name).bind λp=>D (p.1,p.2::a)
def wj(P:Program)(H:ae)(aa:cE)(c:Call):Option (Nat×List ad):=
 match c.callee with
 | .value f=>(du aa f).bind λu=>(lT aa c.args.toList).bind λa=>zY u a
 | .invoke r name=>(du aa r).bind λu=>(lT aa c.args.toList).bind λa=>DU P H u name a
 |_=>Z
def h8(a b:Option ad)(k:K->O):O:=match a with
 |some v=>k (.pure v)
 |none=>b.bind λv=>k (.read v)
def ve(r:Option (ad×bW))(k:K->O):O:=match r with
 |some (v,b)=>k (.new v b)
 |none=>Z
def fj(H:ae)(r:O)(k:K->O):O:=match r with
 |some (v,H')=>bif decide (H.next<=H'.next)then k (.ea v H')else Z
 |none=>Z
def tc(P:Program)(call:ay)(o:Op)(aa:cE)(H:ae)(k:K->O):O:=
 match cls o with
 | .pure=>(te P o aa).bind λv=>k (.pure v)
 | .read=>(pT P o aa H).bind λv=>k (.read v)
 | .both=>h8 (te P o aa) (pT P o aa H) k
 | .new=>ve (wy P o aa H.next) k
 | .write=>fj H (wC P o aa H) k
 | .call=>match o with
  | .call c=>(wj P H aa c).bind λp=>fj H (call p.1 p.2 H) k
  |_=>Z
def kK(b:ad)(want:Bool)(m:(K->O)->O)(k:K->O):O:=match b with
 | .bool t=>bif t==want then m k else k .skip
 |_=>k .skip
def td(P:Program)(call:ay)(ops:Array Oper)(o:Oper)(aa:cE)(H:ae)(k:K->O):O:=
 match o.guard with
 |none=>tc P call o.op aa H k
 |some (j,want)=>match ops[j]? with
  |some q=>(match q.dst with
   |some d=>kK (aa d) want (tc P call o.op aa H) k
   |none=>k .skip)
  |none=>k .skip
def uY(P:Program)(call:ay)(ops:Array Oper):List Oper->cE->ae->(cE->ae->O)->O
 |[],aa,H,k=>k aa H
 |o::os,aa,H,k=>td P call ops o aa H λx=>uY P call ops os (ey aa o.dst x.val) (x.heap H) k
structure gB where
 i:Nat
 k:K
 rd:ae->Option ad
def om(ms:List Nat):List gB->List Nat->Bool
 |[],_=>X
 |t::ts,ids=>match t.k with
  | .ea _ _=>ids.all (λj=>dk ms j t.i)&&om ms ts (t.i::ids)
  | .new _ _=>om ms ts (t.i::ids)
  |_=>om ms ts ids
def bh(r:Option ad)(v:ad):Bool:=match r with
 |some u=>ad.beq u v
 |none=>U
def nW(ms:List Nat)(rd:ae->Bool)(i:Nat):List gB->ae->Bool
 |[],H=>rd H
 |t::ts,H=>bif t.k.eW then(dk ms t.i i||rd H)&&(dk ms i t.i||nW ms rd i ts (t.k.heap H))else nW ms rd i ts H
def oe(ms:List Nat)(i:Nat):List gB->Bool->Bool
 |[],_=>U
 |t::ts,s=>match t.k with
  | .new _ _=>(s&&dk ms t.i i&&ts.all λu=>mV u.k)||oe ms i ts (s|| !dk ms t.i i)
  | .ea _ _=>oe ms i ts (s|| !dk ms t.i i)
  |_=>oe ms i ts s
def oE(ms:List Nat)(rd:ae->Bool)(i:Nat):List gB->ae->Bool->Bool
 |[],_,_=>U
 |t::ts,H,s=>match t.k with
  | .new _ b=>bif s&&dk ms t.i i&&ts.all (λu=>mV u.k)then rd (H.push b).only||oE ms rd i ts (H.push b) (s|| !dk ms t.i i)else oE ms rd i ts (H.push b) (s|| !dk ms t.i i)
  | .ea _ H'=>oE ms rd i ts H' (s|| !dk ms t.i i)
  |_=>oE ms rd i ts H s
def sx(ms:List Nat)(rd:ae->Bool)(i:Nat)(T:List gB)(H:ae):Bool:=bif oe ms i T U then nW ms rd i T H||oE ms rd i T H U else nW ms rd i T H
def qV(ms:List Nat)(a:List Nat)(T:List gB)(H:ae):List gB->Bool
 |[]=>X
 |t::ts=>(match t.k with
  | .read v=>a.contains t.i||sx ms (λH=>bh (t.rd H) v) t.i T H
  |_=>X)&&qV ms a T H ts
def oi(ms:List Nat)(a:List Nat)(T:List gB)(H:ae):Bool:=om ms T []&&qV ms a T H T
def rj(P:Program)(call:ay)(ops:Array Oper):List Nat->cE->ae->(List gB->cE->ae->O)->O
 |[],aa,H,k=>k [] aa H
 |i::is,aa,H,k=>match ops[i]? with
  |none=>Z
  |some o=>td P call ops o aa H λx=>rj P call ops is (ey aa o.dst x.val) (x.heap H) λT a6 H'=>k (⟨i,x,pT P o.op aa⟩::T) a6 H'
def yf(ops:Array Oper):List Nat:=(order ops).filter (tied ops (dJ ops) (order ops))
def quiet(ops:Array Oper):Bool:=ops.toList.all λo=> !ox o.op
def xN(P:Program)(call:ay)(ops:Array Oper)(draw:Bool)(aa:cE)(H:ae)(k:cE->ae->O):O:=
 match draw with
 |false=>uY P call ops ops.toList aa H k
 |true=>bif quiet ops then rj P call ops (order ops) aa H λ_ a6 H'=>k a6 H' else
  rj P call ops (order ops) aa H λT a6 H'=>bif oi (dJ ops) (yf ops) T H then k a6 H' else Z
def aU(c:Option ad)(a b:O):O:=match c with
 |some (.bool t)=>bif t then a else b
 |_=>Z
abbrev ej:=cE->ae->O
def look(i:Nat):List (Nat×ej)->ej
 |[],_,_=>Z
 |(j,k)::ks,aa,H=>bif Nat.beq i j then k aa H else look i ks aa H
def oy(b:ej->ej):Nat->ej
 |0,_,_=>Z
 |n+1,aa,H=>b (λaa H=>oy b n aa H) aa H
def bl(P:Program)(call:ay)(N:Nat):Code->ej->List (Nat×ej)->ej->ej
 | .skip,e,_,_,aa,H=>e aa H
 | .region _ ops d,e,_,_,aa,H=>xN P call ops d aa H e
 | .seq a b,e,ks,h,aa,H=>bl P call N a (λaa H=>bl P call N b e ks h aa H) ks h aa H
 | .cond c a b,e,ks,h,aa,H=>aU (du aa c) (bl P call N a e ks h aa H) (bl P call N b e ks h aa H)
 | .block id b,e,ks,h,aa,H=>bl P call N b e ((id,e)::ks) h aa H
 | .loop b,_,ks,h,aa,H=>oy (λe aa H=>bl P call N b e ks h aa H) N aa H
 | .exit id,_,ks,_,aa,H=>look id ks aa H
 | .ret,_,_,h,aa,H=>h aa H
 | .label _,e,_,_,aa,H=>e aa H
 |_,_,_,_,_,_=>Z
def qg(P:Program)(H:ae)(aa:cE):List ResultVar->(List ad->O)->O
 |[],k=>k []
 | .tmp t::rs,k=>qg P H aa rs λc=>k (aa t::c)
 | .cell a t::rs,k=>(aq P H t (aa a)).bind λv=>qg P H aa rs λc=>k (v::c)
def l3(P:Program)(rs:List ResultVar):ej:=λaa H=>qg P H aa rs λa=>D (mI a,H)
def lN:List ad->cE
 |[],_=> .tuple []
 |v::_,0=>v
 |_::a,n+1=>lN a n
section
variable {P:Program}{aA:ay}{call:ay}{aa a6:a7}{H:ae}
def kZ(x:Operand):du aa.get x=b_ aa x:=by cases x<;>rfl
def ry:∀xs:List Operand,lT aa.get xs=hh aa xs
 |[]=>rfl
 |x::xs=>by
  simp only[lT,hh,kZ,ry xs];cases b_ aa x<;>cases hh aa xs<;>rfl
def wA:∀xs:List (Nat×Operand),ru aa.get xs=jc aa xs
 |[]=>rfl
 |(i,x)::xs=>by
  simp only[ru,jc,kZ,wA xs];cases b_ aa x<;>cases jc aa xs<;>rfl
def JY(x:Option Operand):rv aa.get x=ke aa x:=by
 cases x with
 |none=>rfl
 |some x=>simp only[rv,ke,kZ];cases b_ aa x<;>rfl
def Cu(o:Op):te P o aa.get=jd P o aa:=by
 cases o<;>simp only[te,jd,kZ,ry,wA,JY,Jt]
 ·rename_i c a b;cases d:b_ aa c with
  |none=>rfl
  |some v=>cases v<;>first|rfl|(rename_i t;cases t<;>rfl)
 ·rename_i c;cases c.callee<;>rfl
def wB(o:Op):pT P o aa.get H=hg P o aa H:=by
 cases o<;>simp only[pT,hg,kZ,ry]
 ·rename_i c;cases c.callee<;>rfl
def xl(v:ad)(l:Nat)(b:bW)(a:b.km=X):oF (D (v,ae.push ⟨.leaf,l⟩ b)) l=D (v,b):=by
 unfold oF;simp only[ae.b8,if_true];have:(ae.push ⟨.leaf,l⟩ b).get l=D b:=ae.bM ⟨.leaf,l⟩ b;rw[this];simp[a]
def KZ(ot:Option TypeId)(esz:Nat)(els:List (List ad)):(dK ot esz els).km=true:=by cases ot<;>rfl
def zS(ot:Option TypeId)(l:Nat)(v:ad):pK ot l v=oF (pC ot ⟨.leaf,l⟩ v) l:=by
 unfold pK pC;by_cases h:v.cells.all ad.one=X
 ·rw[h,if_pos rfl];exact(xl _ _ _ (KZ _ _ _)).symm
 ·rw[if_neg h];simp only[Bool.not_eq_true]at h;rw[h];rfl
def Po(l:Nat)(t:TypeId)(n:Nat)(a:List (Nat×ad)):b6 P l t n a=oF (q9 P ⟨.leaf,l⟩ t n a) l:=by
 unfold b6 q9;cases hu:P.underlying t with
 |none=>rfl
 |some d=>
  cases d<;>try rfl
  rename_i e;simp only
  cases aB:cA P e with
  |none=>rfl
  |some c=>
  cases i:eU P e with
  |none=>rfl
  |some z=>
   simp only
   by_cases h:n*c<=16777216/\z.cells.length=c/\z.cells.all ad.one=X
   ·rw[if_pos h,decide_eq_true h];simp only[aR];cases je c (List.replicate n z.cells) a with
    |none=>rfl
    |some els=>exact(xl _ _ _ rfl).symm
   ·rw[if_neg h,decide_eq_false h];rfl
def JQ(o:Op)(l:Nat):wy P o aa.get l=jE P o aa l:=by
 unfold jE;cases o<;>simp only[wy,oa,kZ,wA]<;>try rfl
 ·rename_i t;unfold sW;cases eU P t with
  |none=>rfl
  |some v=>exact zS _ l v
 ·rename_i t x;cases b_ aa x with
  |none=>rfl
  |some v=>exact zS _ l v
 ·rename_i t n a;cases jc aa a.toList with
  |none=>rfl
  |some v=>exact Po l t n v
 ·rename_i t r;cases r with
  |none=>exact(xl _ _ _ rfl).symm
  |some r=>rfl
 ·rename_i t x c;cases b_ aa x with
  |none=>rfl
  |some u=>cases b_ aa c<;>rfl
def map_bind{α β:Type}(x:Option α)(f:α->β):x.bind (λa=>D (f a))=x.map f:=by cases x<;>rfl
def JZ(o:Op):wC P o aa.get H=kT P o aa H:=by
 cases o<;>simp only[wC,kT,kZ,map_bind]
 ·rename_i c;cases d:c.callee with
  |builtin b=>
   cases a:c.args.toList with
   |nil=>cases b<;>rfl
   |cons s r=>
    cases r with
    |nil=>cases b<;>rfl
    |cons x r=>cases r<;>cases b<;>rfl
  |value f=>rfl
  |invoke r m=>rfl
def Jv(c:Call):wj P H aa.get c=lM P H aa c:=by
 unfold wj lM;cases h:c.callee with
 |value f=>
  simp only[kZ,ry];cases b_ aa f with
  |none=>rfl
  |some v=>
   cases d:hh aa c.args.toList with
   |none=>
    simp only[Option.bind_some,Option.bind_none];split<;>first|rfl|(simp_all;done)
   |some e=>
    simp only[Option.bind_some];unfold zY;split
    ·rename_i g first captured;rfl
    ·rename_i a;split
     ·rename_i g first captured he
      simp only[aS]at he;exact absurd he (a _ _ _)
     ·rfl
 |invoke r m=>
  simp only[kZ,ry];cases b_ aa r with
  |none=>rfl
  |some v=>
   simp only[Option.bind_some];cases d:hh aa c.args.toList with
   |none=>cases pH P H v m<;>rfl
   |some e=>
    simp only[Option.bind_some,DU];cases pH P H v m<;>rfl
 |builtin b=>rfl
def By(o:Op)(k:K->O):tc P call o aa.get H k=(step1 P call o aa H).bind k:=by
 unfold tc step1;cases e:cls o with
 |pure=>simp only[Cu];cases jd P o aa<;>rfl
 |read=>simp only[wB];cases hg P o aa H<;>rfl
 |both=>
  simp only[Cu,wB];unfold h8;cases jd P o aa with
  |some v=>rfl
  |none=>cases hg P o aa H<;>rfl
 |new=>
  simp only[JQ];unfold ve;cases jE P o aa H.next<;>rfl
 |write=>
  simp only[JZ];unfold fj;cases h:kT P o aa H with
  |none=>rfl
  |some r=>
   obtain⟨v,H'⟩:=r;simp only[pX];by_cases a:H.next<=H'.next
   ·rw[if_pos a,decide_eq_true a];rfl
   ·rw[if_neg a,decide_eq_false a];rfl
 |call=>
  cases o<;>try rfl
  rename_i c;simp only[Jv];cases lM P H aa c with
  |none=>rfl
  |some p=>
   obtain⟨g,d⟩:=p;simp only[Option.bind_some];unfold fj;cases h:call g d H with
   |none=>rfl
   |some r=>
    obtain⟨v,H'⟩:=r;simp only[pX];by_cases a:H.next<=H'.next
    ·rw[if_pos a,decide_eq_true a];rfl
    ·rw[if_neg a,decide_eq_false a];rfl
def Bz(ops:Array Oper)(o:Oper)(k:K->O):td P call ops o aa.get H k=(hD P call ops o aa H).bind k:=by
 unfold td hD kS;cases c:o.guard with
 |none=>exact By o.op k
 |some p=>
  obtain⟨j,want⟩:=p;simp only
  cases h:ops[j]? with
  |none=>rfl
  |some q=>
   simp only
   cases a:q.dst with
   |none=>rfl
   |some d=>
    simp only
    cases i:aa.get d<;>try rfl
    rename_i t;simp only[kK];cases e:(t==want)with
    |true=>simp only[aR];exact By o.op k
    |false=>rfl
def GW{dst:Option Nat}{v:ad}(h:aa.put dst v=D a6):ey aa.get dst v=a6.get:=by
 funext e
 rw[a7.rC h];cases dst with
 |none=>simp[ey]
 |some d=>
  simp only[ey];by_cases he:e=d
  ·subst he;simp[Nat.beq_refl]
  ·have a:Nat.beq e d=false:=by rw[<-Bool.not_eq_true,Nat.beq_eq];exact he
   rw[a];simp[Ne.symm he]
def oj(n:Nat)(o:Oper):Bool:=match o.dst with
 |none=>X
 |some d=>decide (d<n)
def EC{o:Oper}(h:oj aa.size o=X)(v:ad):∃a6,aa.put o.dst v=D a6/\a6.size=aa.size:=by
 unfold oj at h;cases a:o.dst with
 |none=>exact⟨aa,rfl,rfl⟩
 |some d=>
  rw[a]at h;exact⟨{aa with t:=bt.put v (d+1) aa.t d},by simp only[a7.put];rw[if_pos (of_decide_eq_true h)],rfl⟩
def Fq(ops:Array Oper)(k:cE->ae->O):∀(os:List Oper) (aa:a7) (H:ae),os.all (oj aa.size)=X->
  uY P call ops os aa.get H k=(hL P call ops os aa H).bind λp=>k p.1.get p.2
 |[],aa,H,_=>rfl
 |o::os,aa,H,h=>by
  simp only[List.all_cons,Bool.and_eq_true]at h;simp only[uY,hL,Bz];cases d:hD P call ops o aa H with
  |none=>rfl
  |some x=>
   obtain⟨a6,a,c⟩:=EC h.1 x.val;simp only[Option.bind_some,a,GW a];exact Fq ops k os a6 _ (by rw[c];exact h.2)
def bN.c(P:Program)(t:bN):gB:=⟨t.i,t.k,pT P t.o.op t.aa.get⟩
def Ah(ms:List Nat):∀(T:List bN) (ids:List Nat),om ms (T.map (bN.c P)) ids=ji ms T ids
 |[],_=>rfl
 |t::T,ids=>by
  simp only[List.map_cons,om,ji,bN.c];cases t.k<;>simp only[Ah ms T]
def yw(ms:List Nat)(rd:ae->Bool)(i:Nat):∀(T:List bN) (H:ae),nW ms rd i (T.map (bN.c P)) H=j6 ms rd i T H
 |[],_=>rfl
 |t::T,H=>by
  simp only[List.map_cons,nW,j6,bN.c];cases t.k.eW
  ·simp only[aK];exact yw ms rd i T H
  ·simp only[aR,if_true];rw[yw ms rd i T]
def z1(ms:List Nat)(i:Nat):∀(T:List bN) (s:Bool),oe ms i (T.map (bN.c P)) s=og ms i T s
 |[],_=>rfl
 |t::T,s=>by
  simp only[List.map_cons,oe,og,bN.c];cases t.k<;>simp only[z1 ms i T,List.all_map]<;>rfl
def DX(ms:List Nat)(rd:ae->Bool)(i:Nat):∀(T:List bN) (H:ae) (s:Bool),oE ms rd i (T.map (bN.c P)) H s=kp ms rd i T H s
 |[],_,_=>rfl
 |t::T,H,s=>by
  simp only[List.map_cons,oE,kp,bN.c];cases t.k<;>simp only[DX ms rd i T,List.all_map]<;>rfl
def O9(ms:List Nat)(rd:ae->Bool)(i:Nat)(T:List bN)(H:ae):sx ms rd i (T.map (bN.c P)) H=qL ms rd i T H:=by
 simp only[sx,qL,z1,DX,yw]
def G7(ms:List Nat)(d:List Nat)(a:Nat->Bool)(T:List bN)(H:ae):∀(S:List bN),(∀t∈S,d.contains t.i=a t.i)->qV ms d (T.map (bN.c P)) H (S.map (bN.c P))=lG P ms a T H S
 |[],_=>rfl
 |t::S,h=>by
  simp only[List.map_cons,qV,lG,G7 ms d a T H S λt e=>h t (by simp[e])]
  congr 1
  simp only[bN.c,h t (by simp)];cases t.k<;>try rfl
  simp only[O9]
  congr 2
  funext H
  simp only[bh,oL,wB];cases hg P t.o.op t.aa H<;>rfl
def EG(ms:List Nat):∀(T:List bN) (ids:List Nat),(∀t∈T,t.k.eW=U)->ji ms T ids=X
 |[],_,_=>rfl
 |t::T,ids,h=>by
  have a:=h t (by simp);simp only[ji];have d:=EG ms T ids λu hu=>h u (by simp[hu])
  cases c:t.k<;>rw[c]at a<;>first|exact d|(cases a;done)
def EH(ms:List Nat)(a:Nat->Bool)(T:List bN)(H:ae):∀(S:List bN),(∀t∈S,a t.i=X)->lG P ms a T H S=X
 |[],_=>rfl
 |t::S,h=>by
  simp only[lG,h t (by simp),EH ms a T H S λt c=>h t (by simp[c]),Bool.true_or,Bool.and_true];cases t.k<;>rfl
def vY(ops:Array Oper):∀(is:List Nat) (aa:a7) (H:ae) (k:List gB->cE->ae->O),ops.toList.all (oj aa.size)=X->
  rj P call ops is aa.get H k=(canRun P call ops is aa H).bind λp=>k (p.1.map (bN.c P)) p.2.1.get p.2.2
 |[],aa,H,k,_=>rfl
 |i::is,aa,H,k,h=>by
  simp only[rj,canRun];cases e:ops[i]? with
  |none=>rfl
  |some o=>
   simp only[Bz];cases l:hD P call ops o aa H with
   |none=>rfl
   |some x=>
    have hm:oj aa.size o=true:=by
     rw[List.all_eq_true]at h;exact h o (by have:=Array.mem_of_getElem? e;simpa using this)
    obtain⟨a6,a,d⟩:=EC hm x.val;simp only[Option.bind_some,a,GW a];rw[vY ops is a6 _ _ (by rw[d];exact h)];cases canRun P call ops is a6 (x.heap H)with
    |none=>rfl
    |some p=>obtain⟨T,j,H1⟩:=p;rfl
def LN(ops:Array Oper)(d:Bool)(k:cE->ae->O)(h:ops.toList.all (oj aa.size)=X):xN P call ops d aa.get H k=(fp P call ops d aa H).bind λp=>k p.1.get p.2:=by
 unfold xN fp;cases d with
 |false=>exact Fq ops k _ aa H h
 |true=>
  simp only
  rw[vY ops _ aa H _ h,vY ops _ aa H _ h];cases l:canRun P call ops (order ops) aa H with
  |none=>cases quiet ops<;>rfl
  |some p=>
   obtain⟨T,z,H1⟩:=p;have u:=(kW l).1;have w:∀t∈T,t.i∈order ops:=λt a=>by rw[<-u];exact List.mem_map.2 ⟨t,a,rfl⟩
   have y:∀t∈T,(yf ops).contains t.i=tied ops (dJ ops) (order ops) t.i:=λt a=>by
    unfold yf;rw[Bool.eq_iff_iff,List.contains_iff_mem,List.mem_filter];exact⟨λh=>h.2,λh=>⟨w t a,h⟩⟩
   simp only[Option.bind_some];cases c:quiet ops with
   |true=>
    have m:∀o∈ops.toList,ox o.op=false:=λo x=>by
     unfold quiet at c;rw[List.all_eq_true]at c;simpa using c o x
    have aw:∀t∈T,t.k.eW=false:=λt a=>by
     obtain⟨A,B,n⟩:=List.append_of_mem a;have e:=vZ (P:=P) (call:=call) (by rw[<-n];exact l);cases s:t.k.eW with
     |false=>rfl
     |true=>
      have:=CU e.2.2.1 s;rw[m t.o (by have:=Array.mem_of_getElem? e.1;simpa using this)]at this;cases this
    have q:∀t∈T,tied ops (dJ ops) (order ops) t.i=true:=λt _=>by
     unfold tied;rw[List.all_eq_true];intro j _;cases v:ops[j]? with
     |none=>simp
     |some o=>simp[m o (by have:=Array.mem_of_getElem? v;simpa using this)]
    simp only[aR,EG (dJ ops) T [] aw,EH (dJ ops) _ T H T q];rfl
   |false=>
    simp only[aK,oi,Ah,G7 _ _ _ T H T y];cases ji (dJ ops) T []with
    |false=>rfl
    |true=>
     cases lG P (dJ ops) (tied ops (dJ ops) (order ops)) T H T<;>rfl
def jh(n:Nat):Code->Bool
 | .region _ ops _=>ops.toList.all (oj n)
 | .seq a b=>jh n a&&jh n b
 | .cond _ a b=>jh n a&&jh n b
 | .block _ b=>jh n b
 | .loop b=>jh n b
 |_=>X
def pN(r:Option (aJ×a7×ae))(a:ej)(ks:List (Nat×ej))(c:ej):O:=match r with
 |some (.normal,aa,H)=>a aa.get H
 |some (.exit id,aa,H)=>look id ks aa.get H
 |some (.ret,aa,H)=>c aa.get H
 |none=>Z
def FC{ops:Array Oper}:∀{os:List Oper} {aa a6:a7} {H H':ae},hL P call ops os aa H=D (a6,H')->a6.size=aa.size
 |[],aa,a6,H,H',h=>by
  simp only[hL,aS,b5]at h;rw[h.1]
 |o::os,aa,a6,H,H',h=>by
  simp only[hL]at h;split at h
  ·cases h
  ·split at h
   ·cases h
   ·rename_i c a;rw[FC h,a7.qN a]
def Fz{ops:Array Oper}:∀{is:List Nat} {aa a6:a7} {H H':ae} {T:List bN},canRun P call ops is aa H=D (T,a6,H')->a6.size=aa.size
 |[],aa,a6,H,H',T,h=>by
  simp only[canRun,aS,b5]at h;rw[h.2.1]
 |i::is,aa,a6,H,H',T,h=>by
  simp only[canRun]at h;split at h
  ·cases h
  ·split at h
   ·cases h
   ·split at h
    ·cases h
    ·rename_i d a;split at h
     ·cases h
     ·rename_i c;simp only[aS,b5]at h;obtain⟨_,rfl,_⟩:=h;rw[Fz c,a7.qN a]
def Pg{ops:Array Oper}{d:Bool}{aa a6:a7}{H H':ae}(h:fp P call ops d aa H=D (a6,H')):a6.size=aa.size:=by
 unfold fp at h;split at h
 ·exact FC h
 ·split at h
  ·cases h
  ·rename_i a;split at h
   ·cases h
   ·split at h
    ·cases h
    ·simp only[aS,b5]at h;obtain⟨rfl,_⟩:=h;exact Fz a
def FB{f:a7->ae->Option (aJ×a7×ae)}(a:∀aa H ex a6 H',f aa H=D (ex,a6,H')->a6.size=aa.size):
  ∀{n:Nat} {aa:a7} {H:ae} {ex:aJ} {a6:a7} {H':ae},iter f n aa H=D (ex,a6,H')->a6.size=aa.size
 |0,_,_,_,_,_,h=>by cases h
 |n+1,aa,H,ex,a6,H',h=>by
  simp only[iter]at h;split at h
  ·rename_i d H1 c;rw[FB a h,a _ _ _ _ _ c]
  ·exact a _ _ _ _ _ h
def FA{N:Nat}:∀(c:Code) {aa:a7} {H:ae} {ex:aJ} {a6:a7} {H':ae},cH (fp P call) N c aa H=D (ex,a6,H')->a6.size=aa.size:=by
 intro c
 induction c with
 |skip=>intro aa H ex a6 H' h;simp only[cH,aS,b5]at h;rw[h.2.1]
 |region id ops d=>
  intro aa H ex a6 H' h;simp only[cH]at h;split at h
  ·rename_i m H1 e;simp only[aS,b5]at h;obtain⟨_,rfl,_⟩:=h;exact Pg e
  ·cases h
 |seq a b j k=>
  intro aa H ex a6 H' h;simp only[cH]at h;split at h
  ·rename_i m H1 e;rw[k h,j e]
  ·exact j h
 |cond c a b j k=>
  intro aa H ex a6 H' h;simp only[cH]at h;split at h
  ·exact j h
  ·exact k h
  ·cases h
 |block id b i=>
  intro aa H ex a6 H' h;simp only[cH]at h;split at h
  ·rename_i n m H1 e;split at h<;>(simp only[aS,b5]at h;obtain⟨_,rfl,_⟩:=h;exact i e)
  ·exact i h
 |loop b i=>
  intro aa H ex a6 H' h;simp only[cH]at h;exact FB (λ_ _ _ _ _ h=>i h) h
 |exit id=>intro aa H ex a6 H' h;simp only[cH,aS,b5]at h;rw[h.2.1]
 |ret=>intro aa H ex a6 H' h;simp only[cH,aS,b5]at h;rw[h.2.1]
 |label l=>intro aa H ex a6 H' h;simp only[cH,aS,b5]at h;rw[h.2.1]
 |goto l=>intro aa H ex a6 H' h;cases h
 |scope b i=>intro aa H ex a6 H' h;cases h
 |rangeFunc f o a b j k=>intro aa H ex a6 H' h;cases h
 |refuse y=>intro aa H ex a6 H' h;cases h
def CM{f:a7->ae->Option (aJ×a7×ae)}{b:ej->ej}{ks:List (Nat×ej)}{e:ej}(m:Nat)(aB:∀aa H ex a6 H',f aa H=D (ex,a6,H')->a6.size=aa.size)
  (d:∀(aa:a7) (H:ae) (a:ej),aa.size=m->b a aa.get H=pN (f aa H) a ks e) (a:ej):∀(n:Nat) (aa:a7) (H:ae),aa.size=m->oy b n aa.get H=pN (iter f n aa H) a ks e
 |0,aa,H,_=>rfl
 |n+1,aa,H,c=>by
  simp only[oy,iter];rw[d aa H _ c];cases h:f aa H with
  |none=>rfl
  |some x=>
   obtain⟨ex,i,H1⟩:=x;cases ex with
   |normal=>exact CM m aB d a n i H1 (by rw[aB _ _ _ _ _ h];exact c)
   |exit id=>rfl
   |ret=>rfl
def Aa{N:Nat}:∀(c:Code) (aa:a7) (H:ae) (e:ej) (ks:List (Nat×ej)) (i:ej),jh aa.size c=X->bl P call N c e ks i aa.get H=pN (cH (fp P call) N c aa H) e ks i:=by
 intro c
 induction c with
 |skip=>intro aa H e ks i _;rfl
 |region id ops d=>
  intro aa H e ks i h;simp only[bl,cH];rw[LN ops d e h];cases fp P call ops d aa H<;>rfl
 |seq a b m n=>
  intro aa H e ks i h;simp only[jh,Bool.and_eq_true]at h;simp only[bl,cH];rw[m aa H _ ks i h.1];cases he:cH (fp P call) N a aa H with
  |none=>rfl
  |some x=>
   obtain⟨ex,j,H1⟩:=x;cases ex with
   |normal=>exact n j H1 e ks i (by rw[FA a he];exact h.2)
   |exit id=>rfl
   |ret=>rfl
 |cond c a b m n=>
  intro aa H e ks i h;simp only[jh,Bool.and_eq_true]at h;simp only[bl,cH,kZ];unfold aU;cases b_ aa c with
  |none=>rfl
  |some v=>
   cases v<;>try rfl
   rename_i t;cases t
   ·exact n aa H e ks i h.2
   ·exact m aa H e ks i h.1
 |block id b k=>
  intro aa H e ks i h;simp only[bl,cH];rw[k aa H e _ i h];cases he:cH (fp P call) N b aa H with
  |none=>rfl
  |some x=>
   obtain⟨ex,j,H1⟩:=x;cases ex with
   |normal=>rfl
   |ret=>rfl
   |exit o=>
    simp only[pN,look];by_cases hid:o=id
    ·subst hid;simp[Nat.beq_refl]
    ·have p:Nat.beq o id=false:=by rw[<-Bool.not_eq_true,Nat.beq_eq];exact hid
     rw[p,if_neg hid];rfl
 |loop b k=>
  intro aa H e ks i h;simp only[bl,cH];exact CM aa.size (λ_ _ _ _ _ h=>FA b h) (λj H1 e q=>k j H1 e ks i (by rw[q];exact h)) e N aa H rfl
 |exit id=>intro aa H e ks i _;rfl
 |ret=>intro aa H e ks i _;rfl
 |label l=>intro aa H e ks i _;rfl
 |goto l=>intro aa H e ks i _;rfl
 |scope b k=>intro aa H e ks i _;rfl
 |rangeFunc f s a b m n=>intro aa H e ks i _;rfl
 |refuse y=>intro aa H e ks i _;rfl
def ue{aa:a7}{H:ae}:∀(rs:List ResultVar) (k:List ad->O),qg P H aa.get rs k=(hy P aa H rs).bind k
 |[],k=>rfl
 | .tmp t::rs,k=>by
  simp only[qg,hy,pI];rw[ue rs];cases hy P aa H rs<;>rfl
 | .cell a t::rs,k=>by
  simp only[qg,hy,pI];cases aq P H t (aa.get a)with
  |none=>rfl
  |some v=>
   simp only[Option.bind_some];rw[ue rs];cases hy P aa H rs<;>rfl
def zc(n:Nat)(args:List ad):(a7.enter n args).get=lN args:=by
 have h:∀(args:List ad) (d:Nat),lN args d=(args[d]?).getD (.tuple []):=by
  intro args
  induction args with
  |nil=>intro d;cases d<;>rfl
  |cons v e c=>
   intro d;cases d with
   |zero=>rfl
   |succ d=>simpa [lN]using c d
 funext d
 rw[h];unfold a7.get a7.enter;simp only[xn];by_cases a:d<args.length
 ·rw[if_pos af];simp[a]
 ·rw[if_neg af,bt.rA];simp[a]
def Jp{f:Nat}{args:List ad}{H:ae}{fn:Func}{c:Code}{M:Nat}{r:ad×ae}(i:aA f args H=Z)(l:P.funcs[f]? =D fn)(k:fn.body=D c)(m:jh fn.ntmps c=X)(n:Nat.ble args.length fn.ntmps=X)
  (h:bl P (aE P aA) M c (l3 P fn.results.toList) [] (l3 P fn.results.toList) (lN args) H=D r):aE P aA f args H=D r:=by
 have aB:(a7.enter fn.ntmps args).size=fn.ntmps:=by have:=Nat.le_of_ble_eq_true n;simp only[a7.enter];omega
 rw[<-zc fn.ntmps,Aa c _ _ _ _ _ (by rw[aB];exact m)]at h;unfold pN at h;have fin:∀(aa:a7) (H':ae),l3 P fn.results.toList aa.get H'=D r->∃d,hy P aa H' fn.results.toList=D d/\r=(mI d,H'):=by
  intro aa H' a;unfold l3 at a;rw[ue]at a;cases j:hy P aa H' fn.results.toList with
  |none=>rw[j]at a;cases a
  |some d=>rw[j]at a;exact⟨d,rfl,(Option.some.inj a).symm⟩
 split at h
 ·rename_i aa H' he;obtain⟨d,e,rfl⟩:=fin aa H' h;exact Ap i l k he (λid=>by intro a;cases a) e
 ·cases h
 ·rename_i aa H' he;obtain⟨d,e,rfl⟩:=fin aa H' h;exact Ap i l k he (λid=>by intro a;cases a) e
 ·cases h
end
end Go.cn
namespace Go
def aN:Code->Code
 | .seq a _=>a
 | .cond _ a _=>a
 | .block _ b=>b
 | .loop b=>b
 |c=>c
def o:Code->Code
 | .seq _ b=>b
 | .cond _ _ b=>b
 |c=>c
def Code.test:Code->Operand
 | .cond c _ _=>c
 |_=> .tmp 0
def Code.num:Code->Nat
 | .block id _=>id
 | .exit id=>id
 |_=>0
def Code.Kp:Code->Bool| .seq _ _=>X|_=>U
def Code.Km:Code->Bool| .cond _ _ _=>X|_=>U
def Code.Kl:Code->Bool| .block _ _=>X|_=>U
def Code.Ko:Code->Bool| .loop _=>X|_=>U
end Go
namespace Go.cn
section
variable {P:Program}{call:ay}{N:Nat}{ja hb:ej}{hc:List (Nat×ej)}
def aM{c:Code}{k T:ej}(d:c.Kp=X)(h:∀aa H,bl P call N (o c) ja hc hb aa H=k aa H)(e:∀aa H,bl P call N (aN c) k hc hb aa H=T aa H):
  ∀aa H,bl P call N c ja hc hb aa H=T aa H:=by
 cases c<;>first|cases d|skip
 rename_i a b;intro aa H;rw[<-e];show bl P call N a (λaa H=>bl P call N b ja hc hb aa H) hc hb aa H=_;rw[show(λaa H=>bl P call N b ja hc hb aa H)=k from funext λaa=>funext λH=>h aa H];rfl
def dt{c:Code}{A B:ej}(e:c.Km=X)(a:∀aa H,bl P call N (aN c) ja hc hb aa H=A aa H)(d:∀aa H,bl P call N (o c) ja hc hb aa H=B aa H):
  ∀aa H,bl P call N c ja hc hb aa H=aU (du aa c.test) (A aa H) (B aa H):=by
 cases c<;>first|cases e|skip
 intro aa H;rw[<-a,<-d];rfl
def cX{c:Code}{T:ej}(d:c.Kl=X)(a:∀aa H,bl P call N (aN c) ja ((c.num,ja)::hc) hb aa H=T aa H):∀aa H,bl P call N c ja hc hb aa H=T aa H:=by
 cases c<;>first|cases d|skip
 intro aa H;rw[<-a];rfl
def dW{c:Code}{k:Nat->ej}(e:c.Ko=X)(d:∀aa H,k 0 aa H=Z)(aB:∀n aa H,bl P call N (aN c) (k n) hc hb aa H=k (n+1) aa H):∀aa H,bl P call N c ja hc hb aa H=k N aa H:=by
 cases c<;>first|cases e|skip
 rename_i b;have key:∀n aa H,oy (λa aa H=>bl P call N b a hc hb aa H) n aa H=k n aa H:=by
  intro n
  induction n with
  |zero=>intro aa H;exact(d aa H).symm
  |succ n h=>
   intro aa H;rw[<-aB n aa H];show bl P call N b (λaa H=>oy _ n aa H) hc hb aa H=_;rw[show(λaa H=>oy (λa aa H=>bl P call N b a hc hb aa H) n aa H)=k n from funext λaa=>funext λH=>h aa H];rfl
 intro aa H;exact key N aa H
def aF(c:Code):∀aa H,bl P call N c ja hc hb aa H=bl P call N c ja hc hb aa H:=λ_ _=>rfl
def j(r:Option ad)(k:ad->O):O:=match r with
 |some v=>k v
 |none=>Z
def aI(H:ae)(r:O)(k:ad->ae->O):O:=match r with
 |some (v,H')=>bif decide (H.next<=H'.next)then k v H' else Z
 |none=>Z
def bd(H:ae)(r:Option ae)(k:ae->O):O:=aI H (r.bind λH'=>D (.tuple [],H')) λ_ H'=>k H'
def b1(H:ae)(r:Option (ad×bW))(k:ad->ae->O):O:=match r with
 |some (v,b)=>k v (H.push b)
 |none=>Z
def cT(H:ae)(cs:List ad)(k:ad->ae->O):O:=k (.ptr H.next 0 0) (H.push (.row U cs.length [cs]))
def bs(fn:Func):Code:=match fn.body with
 |some c=>c
 |none=> .skip
def bg(P:Program)(b:Builtin)(ts:List TypeId)(a:List ad)(H:ae)(k:ad->O):O:=match cg P .empty b ts a with
 |some v=>k v
 |none=>(cg P H b ts a).bind k
def qX(P:Program)(s d:TypeId)(v:ad)(H:ae)(k:ad->O):O:=match mG P s d v with
 |some v=>k v
 |none=>(n7 P H s d v).bind k
def cI(v:ad)(q:K->O):O:=q (.pure v)
def bU(r:Option ad)(q:K->O):O:=r.bind λv=>q (.pure v)
def qr(r:Option ad)(q:K->O):O:=r.bind λv=>q (.read v)
def aX(b:ad)(want:Bool)(H:ae)(m:(K->O)->O)(k:ad->ae->O):O:=kK b want m λx=>k x.val (x.heap H)
