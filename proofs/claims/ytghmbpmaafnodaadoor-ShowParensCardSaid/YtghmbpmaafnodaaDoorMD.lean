/-
  Texts of one proof, laid together: Hv16 Hv17 Hv21 Hv22 Hv23.
-/
import Derived.Test.YtghmbpmaafnodaaDoorMC
set_option linter.unusedVariables false
set_option linter.unusedSimpArgs false
set_option linter.defProp false
open Option renaming some→D,none→Z
open Bool renaming true→X,false→U
namespace Go.b9
section
variable {E:Env}{P:Program}{call:ay}{ops:Array Oper}{ord:List Nat}{dZ cv:a_}{H0 bJ:ae}{T:List bF}{ρ0:Env}{w0:World}{Q:Exit->Act->World->Prop}
def Ctx.uniq(c:Ctx P call ops ord dZ H0 T cv bJ){A B:List bF}{t:bF}(h:T=A++t::B){u:bF}(hu:u∈T)(he:u.i=t.i):u=t:=by
 rw[h]at hu;rcases List.mem_append.1 hu with hu|hu
 ·exact absurd he (c.before h hu).1
 ·rcases List.mem_cons.1 hu with rfl|hu
  ·rfl
  ·exact absurd he.symm (c.after h hu).1
def te(H0:ae)(T:List bF)(N:Nat)(ρ0:Env)(w0:World)(L:Nat->Bool)(ρ:Env)(w:World)(T1 T2:List bF):Prop:=T=T1++T2/\(∀t∈T1,t.k.eV=X->L t.i=X)/\(∀t∈T2,(∃v H,t.k= .dL v H)->L t.i=U)/\eK ρ0 H0 w0 N (dM L T2 (cb T1 H0)) ρ (cb T1 H0) w
def Ctx.next(c:Ctx P call ops ord dZ H0 T cv bJ){A B:List bF}{t:bF}(h:T=A++t::B){listed:Array Bool}(aB:listed.size=ops.size)(y:pt ops (cZ listed))(M:cZ listed t.i=U)
  (hw:nU (cZ listed) t.ai) {ρ:Env} {l:a_} {a:Act} {x:Value} {w:World} (Q:dC ρ l a) (H:l.size=dZ.size) (R:∀d,l.get d=fm (cZ listed) d T (dZ.get d)) (O:bd ρ t.k.val x) {T1 T2:List bF}
  (m:te H0 T bJ.next ρ0 w0 (cZ (listed.setIfInBounds t.i X)) ρ w T1 T2):Inv ops dZ H0 T bJ.next ρ0 w0 (listed.setIfInBounds t.i X) (a.put t.ai.dst x) w:=by
 obtain⟨G,_,_,K⟩:=c.at h;have E:t.i<listed.size:=by rw[aB];exact(Array.getElem?_eq_some_iff.1 G).1
 have u:cZ (listed.setIfInBounds t.i X) t.i=true:=by rw[rT E];simp
 have n:∀j,j≠t.i->cZ (listed.setIfInBounds t.i X) j=cZ listed j:=λj q=>by rw[rT E];simp[q]
 have F:∀j,cZ listed j=X->cZ (listed.setIfInBounds t.i X) j=true:=λj q=>by
  by_cases e:j=t.i
  ·rw[e];exact u
  ·rw[n j e];exact q
 have N:∃a8,l.put t.ai.dst t.k.val=D a8:=by
  cases L:t.ai.dst with
  |none=>exact⟨l,rfl⟩
  |some d=>
   have:=K d L;exact⟨{l with t:=bn.put t.k.val (d+1) l.t d},by simp only[a_.put];rw[if_pos (by rw[H];exact this)]⟩
 obtain⟨a8,o⟩:=N;refine⟨by simpa using aB,λi ai p z e he v=> ?_,ρ,T1,T2,m.1,m.2.1,m.2.2.1,m.2.2.2,a8,Q.put o O,by rw[a_.o8 o,H],λd=> ?_⟩
 ·by_cases s:i=t.i
  ·subst s;rw[G]at p;cases p;exact F _ (hw e he v)
  ·rw[n i s]at z;exact F _ (y i ai p z e he v)
 ·rw[a_.p1 o d,c.tr h y M u n d,R d]
def Ctx.norm(c:Ctx P call ops ord dZ H0 T cv bJ){N:Nat}{L:Nat->Bool}{ρ:Env}{w:World}:∀{T2 T1:List bF},te H0 T N ρ0 w0 L ρ w T1 T2->
  ∃y n,te H0 T N ρ0 w0 L ρ w y n/\∀u e,n=u::e->u.k.eV=X/\L u.i=U
 |[],T1,m=>⟨T1,[],m,λu e h=>by cases h⟩
 |u::T2,T1,m=>by
  by_cases j:u.k.eV=X/\L u.i=U
  ·exact⟨T1,u::T2,m,λE e h=>by simp only[List.cons.injEq]at h;rw[<-h.1];exact j⟩
  ·obtain⟨o,z,p,A⟩:=m;have s:=pM c.aE;rw[o]at s;have B:=(ed.append s).2;have m':=eK.turns (zC:=[u]) (zD:=T2) (L:=L) B (λv a d=>by
    have:v=u:=by simpa using a
    subst this;have l:L v.i=true:=by
     cases a:L v.i with
     |true=>rfl
     |false=>exact absurd ⟨d,a⟩ j
    refine⟨l,?_⟩;cases q:v.k with
    |new x b=>exact⟨x,b,rfl⟩
    |dL x H=>rw[p v (by simp) ⟨x,H,q⟩]at l;cases l
    |_=>rw[q]at d;cases d) A
   rw[<-jz]at m';refine c.norm (T2:=T2) (T1:=T1++[u]) ⟨by rw[o];simp,λv a d=> ?_,λv a=>p v (by simp[a]),m'⟩;rcases List.mem_append.1 a with a|a
   ·exact z v a d
   ·have:v=u:=by simpa using a
    subst this;cases a:L v.i with
    |true=>rfl
    |false=>exact absurd ⟨d,a⟩ j
def vo{L:Nat->Bool}{u:bF}{v:aa}{b:bO}(hu:u.k= .new v b)(e:L u.i=X):∀{zC zD:List bF} {H:ae},ed H (zC++u::zD)->dM L (zC++u::zD) H (cb zC H).next=D b
 |[],zD,H,_=>by simp[dM,hu,e,cb]
 |c::zC,zD,H,hm=>by
  have a:=vo hu e (zC:=zC) (zD:=zD) hm.2;have hle:∀{zC:List bF} {H:ae},ed H zC->H.next<=(cb zC H).next:=by
   intro zC
   induction zC with
   |nil=>intro H _;exact bk _
   |cons x zC n=>intro H h;exact Nat.le_trans h.1 (n h.2)
  by_cases l:∃v b,c.k= .new v b
  ·obtain⟨o,cx,j⟩:=l;have d:=hle (ed.append hm.2).1;have m:=hm.2;rw[j]at d m a;simp only[K.heap,ae.bT]at d a;simp only[List.cons_append,dM,j,cb,K.heap];rw[if_neg af];exact a
  ·rw[List.cons_append,qz λv b h=>l ⟨v,b,h⟩,cb];exact a
def uz{l:Nat}:∀{zC:List bF} {H:ae},(∀x∈zC,lK x.k=X)->l<H.next->(cb zC H).get l=H.get l
 |[],H,_,_=>rfl
 |c::zC,H,a,i=>by
  have e:=a c (by simp);rw[cb];cases h:c.k with
  |new v b=>
   rw[uz (λx d=>a x (by simp[d])) (by simp only[K.heap,ae.bT];omega)];exact ae.dp af
  |dL v H'=>rw[h]at e;cases e
  |_=>exact uz (λx d=>a x (by simp[d])) i
def Rel.Iw{ρ:Env}{H:ae}{w:World}{b:bO}(h:b≠ .dead->∃loc,ρ H.next=D loc/\ig ρ w loc b):Rel ρ (H.push b).only w where
 row l ro esz els a:=by
  obtain⟨rfl,rfl⟩:=ae.qo a;obtain⟨loc,c,d⟩:=h (by intro e;cases e);exact⟨loc,c,d⟩
 map l es a:=by
  obtain⟨rfl,rfl⟩:=ae.qo a;obtain⟨loc,c,d⟩:=h (by intro e;cases e);exact⟨loc,c,d⟩
 bU l t esz els a:=by
  obtain⟨rfl,rfl⟩:=ae.qo a;obtain⟨loc,c,d⟩:=h (by intro e;cases e);exact⟨loc,c,d⟩
 apart l l' loc j c d i _ _:=by
  exfalso;have aR:∃x,(H.push b).only.get l=D x:=by
   unfold ae.rw at c;cases a:(H.push b).only.get l with
   |none=>simp[a]at c
   |some x=>exact⟨x,rfl⟩
  have a2:∃x,(H.push b).only.get l'=D x:=by
   unfold ae.live at d;cases a:(H.push b).only.get l' with
   |none=>simp[a]at d
   |some x=>exact⟨x,rfl⟩
  obtain⟨x,aR⟩:=aR;obtain⟨y,a2⟩:=a2;exact i ((ae.qo aR).1.trans (ae.qo a2).1.symm)
def Ctx.any(c:Ctx P call ops ord dZ H0 T cv bJ)(bv:iN E P call)(bq:E.le ρ0)(bu:∀ρ a w,dC ρ cv a->Step ρ0 H0 w0 ρ bJ w->Q .normal a w):
  ∀(fuel:Nat) (listed:Array Bool) (a:Act) (w:World),Inv ops dZ H0 T bJ.next ρ0 w0 listed a w->(List.range ops.size).countP (λj=> !cZ listed j)<=fuel->wpAny P .any ops Q fuel listed a w:=by
 have a_:∀listed a w,Inv ops dZ H0 T bJ.next ρ0 w0 listed a w->Region.ready .any ops listed=[]->Q .normal a w:=by
  intro listed a w o av;obtain⟨ρ,n,V⟩:=c.final o (c.FD o.size av);exact bu ρ a w n V
 intro fuel
 induction fuel with
 |zero=>
  intro listed a w o bw;have av:Region.ready .any ops listed=[]:=by
   rw[List.eq_nil_iff_forall_not_mem];intro i aX;obtain⟨ai,n,V,aS,aT⟩:=CH aX o.size;have b4:0<(List.range ops.size).countP (λj=> !cZ listed j):=List.countP_pos_iff.2 ⟨i,by simpa using aT,by simp[V]⟩;omega
  exact⟨av,a_ _ _ _ o av⟩
 |succ fuel aH=>
  intro listed a w o bw;refine⟨λav=>a_ _ _ _ o av,λi aX=> ?_⟩;obtain⟨ai,al,aa,hw,a0⟩:=CH aX o.size;have bj:=c.vp;simp only[oD,Bool.and_eq_true,List.all_eq_true,List.mem_range]at bj;have bi:=bj.1 i a0;rw[List.contains_iff_mem,<-(j4 c.aE).1,List.mem_map]at bi;obtain⟨t,ab,rfl⟩:=bi;have bI:=c.mem ab;obtain rfl:t.ai=ai:=Option.some.inj (bI.symm.trans al);obtain⟨ρ,T1,T2,R,ay,az,m,a5,ak,a4,aO⟩:=o.mid;have bk:t.i<listed.size:=by rw[o.size];exact a0
  have an:cZ (listed.setIfInBounds t.i X) t.i=true:=by rw[rT bk];simp
  have S:∀j,j≠t.i->cZ (listed.setIfInBounds t.i X) j=cZ listed j:=λj ap=>by rw[rT bk];simp[ap]
  have aV:(List.range ops.size).countP (λj=> !cZ (listed.setIfInBounds t.i X) j)<=fuel:=by
   have:=ya (p:=λj=> !cZ listed j) (q:=λj=> !cZ (listed.setIfInBounds t.i X) j) (i:=t.i) (l:=List.range ops.size) (by simpa using a0)
    (λj ap=>by
     by_cases e:j=t.i
     ·rw[e,an]at ap;cases ap
     ·simp only[S j e]at ap;exact ap) (by simp[aa]) (by simp[an])
   omega
  obtain⟨aP,aK,F⟩:=List.append_of_mem ab;have bh:∀d∈t.ai.looksAt ops,a5.get d=t.ad.get d:=λd bx=>by rw[aO d];exact c.looks F o.closed hw aa d bx
  have aN:=Gc bh;have bK:Region.wanted t.ai (yielded ops a.tmps)=j1 ops t.ad t.ai:=(xn ak t.ai).trans (Gd bh);unfold wpOp;rw[al];simp only[bK];have still:t.k.eV=U->∀x,bd ρ t.k.val x->wpAny P .any ops Q fuel (listed.setIfInBounds t.i X) (a.put t.ai.dst x) w:=by
   intro y x z;refine aH _ _ _ (c.next F o.size o.closed aa hw ak a4 aO z (T1:=T1) (T2:=T2) ⟨R,λu hu aj=> ?_,λu hu am=> ?_,?_⟩) aV
   ·have:=ay u hu aj;by_cases e:u.i=t.i
    ·rw[e];exact an
    ·rw[S _ e];exact this
   ·have au:u.i≠t.i:=λe=>by
     have:=c.uniq F (by rw[R];simp[hu]) e;subst this;obtain⟨v,H,O⟩:=am;rw[O]at y;cases y
    rw[S _ au];exact az u hu am
   ·rw[qx (L':=cZ listed) λu hu v b O=>S _ λe=>by
     have:=c.uniq F (by rw[R];simp[hu]) e;subst this;rw[O]at y;cases y]
    exact m
  rcases oh (c.at F).2.2.1 with⟨aw,O⟩|⟨aw,O⟩
  ·rw[aw];simp only[if_true];refine .inl ?_;have a6:t.k.eV=X->∃zC zD,T2=zC++t::zD:=λy=>by
    rw[R]at ab;rcases List.mem_append.1 ab with ab|ab
    ·have:=ay t ab y;rw[aa]at this;cases this
    ·exact List.append_of_mem ab
   have aq:=pM c.aE;cases s:t.k with
   |skip=>rw[s]at O;exact O.elim
   |pure v=>
    rw[s]at O;have W:=kF.congr (λx z=>(aN x z).symm) O;exact Cm W ak λx z=>still (by rw[s];rfl) x (by rw[s];exact z)
   |read v=>
    obtain⟨aL,aR,⟨f1,f2,f3,f4⟩,f5⟩:=c.norm (ρ0:=ρ0) (w0:=w0) (N:=bJ.next) (L:=cZ listed) (ρ:=ρ) (w:=w) (T2:=T2) (T1:=T1) ⟨R,ay,az,m⟩;have aM:∃aQ,Rel ρ aQ w/\gB P t.ai.op t.ad aQ=D v:=by
     rcases EP s c.MV ab with bz|bG
     ·
       refine⟨_,f4.rel,?_⟩;have be:gB P t.ai.op t.ad (cb aP H0)=D v:=by
        rcases oh (c.at F).2.2.1 with⟨_,bc⟩|⟨z,_⟩
        ·rw[s]at bc;exact bc
        ·rw[aw]at z;cases z
       have bb:∀u∈T,u.k.eV=X->u.i≠t.i/\(c8 (dv ops) u.i t.i=X\/c8 (dv ops) t.i u.i=X):=λu hu y=>by
        have au:u.i≠t.i:=λe=>by
         have:=c.uniq F hu e;subst this;rw[s]at y;cases y
        obtain⟨b1,b2,n⟩:=List.append_of_mem hu;refine⟨au,My bz ?_ au (c.at n).1 (AT (c.at n).2.2.1 y)⟩;rw[<-(j4 c.aE).1,List.mem_map];exact⟨u,hu,rfl⟩
       have bD:∀u∈aP,u.k.eV=X->cZ listed u.i=true:=λu hu y=>by
        rcases(bb u (by rw[F];simp[hu]) y).2 with n|n
        ·exact j3 o.closed _ _ al hw _ n
        ·have:=(c.before F hu).2.1;rw[n]at this;cases this
       have bA:∀u∈aK,u.k.eV=X->cZ listed u.i=false:=λu hu y=>by
        have bl:u∈T:=by rw[F];simp[hu]
        rcases(bb u bl y).2 with n|n
        ·have:=(c.after F hu).2.1;rw[n]at this;cases this
        ·cases ah:cZ listed u.i with
         |false=>rfl
         |true=>
          have aF:=c.mem bl;have:=j3 o.closed _ _ aF (o.closed _ _ aF ah) _ n;rw[aa]at this;cases this
       have a3:aL++aR=aP++t::aK:=by rw[<-f1,<-F]
       rcases List.append_eq_append_iff.1 a3 with⟨bZ,aB,aU⟩|⟨c',ao,ag⟩
       ·cases bZ with
        |nil=>rw[List.append_nil]at aB;rw[<-aB];exact be
        |cons u bp=>
         obtain⟨g1,g2⟩:=f5 u (bp++t::aK) aU;have:=bD u (by rw[aB];simp) g1;rw[g2]at this;cases this
       ·have bH:∀(aJ:List bF) (H:ae),(∀u∈aJ,u.k.eV=U)->cb aJ H=H:=by
         intro aJ
         induction aJ with
         |nil=>intro H _;rfl
         |cons u aJ aH=>intro H a7;rw[cb,rD (a7 u (by simp))];exact aH H λu hu=>a7 u (by simp[hu])
        rw[ao,jz,bH c' _ ?_]
        ·exact be
        ·intro u hu;cases y:u.k.eV with
         |false=>rfl
         |true=>
          have n:=f2 u (by rw[ao];simp[hu]) y;have V:u∈t::aK:=by rw[ag];simp[hu]
          rcases List.mem_cons.1 V with rfl|V
          ·rw[s]at y;cases y
          ·have:=bA u V y;rw[n]at this;cases this
     ·rcases L4 bG with bm|bE
      rotate_left
      ·obtain⟨A,u,B,bX,b,g1,g2,g3,g4,g5⟩:=BS bE;refine⟨_,Rel.Iw λaC=> ?_,CF g5⟩;have ah:=j3 o.closed _ _ al hw _ g3;have a3:aL++aR=A++u::B:=by rw[<-f1,<-g1]
       rcases List.append_eq_append_iff.1 a3 with⟨bZ,aB,aU⟩|⟨c',ao,ag⟩
       ·have aG:=f4.iI (cb A H0).next b (by
         rw[f1]at aq;have G:=(ed.append aq).2;rw[aU]at G ⊢;rw[aB,jz];exact vo g2 ah G)
        obtain⟨_,_,_,loc,aI,ax,_⟩:=aG;exact⟨loc,aI,ax⟩
       ·cases c' with
        |nil=>
         have aG:=f4.iI (cb A H0).next b (by
          rw[f1]at aq;have G:=(ed.append aq).2;rw[List.nil_append]at ag;rw[List.append_nil]at ao;rw[<-ag]at G ⊢;rw[ao]at G ⊢;exact vo (zC:=[]) g2 ah G)
         obtain⟨_,_,_,loc,aI,ax,_⟩:=aG;exact⟨loc,aI,ax⟩
        |cons x b3=>
         simp only[List.cons_append,List.cons.injEq]at ag;obtain⟨rfl,ag⟩:=ag;have aW:(cb aL H0).get (cb A H0).next=D b:=by
          rw[ao,jz,cb,g2];rw[uz (λx z=>g4 x (by rw[ag];simp[z])) (by simp[K.heap])];exact ae.bC _ b
         cases b with
         |row ro esz els=>exact f4.rel.row _ _ _ _ aW
         |map es=>exact f4.rel.map _ _ aW
         |bU t esz els=>exact f4.rel.bU _ _ _ _ aW
         |dead=>exact absurd rfl aC
      refine⟨_,f4.rel,?_⟩;rw[show jm (dv ops) (mT P t.ai.op t.ad v) t.i T H0=jm (dv ops) (mT P t.ai.op t.ad v) t.i (aL++aR) H0 by rw[<-f1]]at bm;exact CF (wA bm (λu hu aj=>by
       cases aC:c8 (dv ops) t.i u.i with
       |false=>rfl
       |true=>
        have aF:=c.mem (t:=u) (by rw[f1];simp[hu]);have:=j3 o.closed _ _ aF (o.closed _ _ aF (f2 u hu aj)) _ aC;rw[aa]at this;cases this) (λu bo hu=>by
       obtain⟨g1,g2⟩:=f5 u bo hu;refine⟨g1,?_⟩;cases aC:c8 (dv ops) u.i t.i with
       |false=>rfl
       |true=>
        have:=j3 o.closed _ _ al hw _ aC;rw[g2]at this;cases this))
    obtain⟨aQ,bL,aM⟩:=aM;rw[<-xe aN]at aM;exact CG bL aM ak λx z=>still (by rw[s];rfl) x (by rw[s];exact z)
   |new v b=>
    obtain⟨zC,zD,M⟩:=a6 (by rw[s];rfl);have n:T=(T1++zC)++t::zD:=by rw[R,M];simp
    have aY:=(c.at n).2.2.1;rcases oh aY with⟨_,aD⟩|⟨z,_⟩
    ·rw[s]at aD;have W:=kF.congr (λx z=>(aN x z).symm) aD;have G:ed (cb T1 H0) (zC++t::zD):=by
      have:=aq;rw[R,M]at this;exact(ed.append this).2
     obtain⟨aI,ax⟩:=Cg (L:=cZ listed) (L':=cZ (listed.setIfInBounds t.i X)) s aa an G
      (λu hu=>(S _ (c.before n (by simp[hu])).1).symm) (λu hu=>(S _ (Ne.symm (c.after n hu).1)).symm)
     have ba:(cb T1 H0).next<=(cb zC (cb T1 H0)).next:=(ed.append G).1.le
     have bg:(cb zC (cb T1 H0)).next<bJ.next:=by
      have V:=(ed.append G).2;have aS:=V.2.le;rw[s]at aS;have aT:bJ=cb zD (K.heap (cb zC (cb T1 H0)) (.new v b)):=by
       rw[(j4 c.aE).2.1,n,jz,jz,cb,s]
      rw[aT];simp only[K.heap,ae.bT]at aS ⊢;omega
     rw[M]at m;have bB:iS P t.ai.op a5 (cb zC (cb T1 H0)).next=D (v,b):=by rw[<-jz];exact W
     refine BT bB ak (m.fresh _ ba bg ax) λx bY b0 loc aZ bn bP bQ bR bS gJ bV bW bM bN bO=> ?_
     have m':=m.early ba bg ax bn bP bQ bR bS gJ bV bW bM bN bO;rw[<-aI]at m';refine aH _ _ _ (c.next F o.size o.closed aa hw (ak.mono bn) a4 aO (by rw[s];exact aZ) (T1:=T1) (T2:=zC++t::zD) ⟨by rw[R,M],λu hu aj=> ?_,λu hu am=> ?_,m'⟩) aV
     ·have:=ay u hu aj;by_cases e:u.i=t.i
      ·rw[e];exact an
      ·rw[S _ e];exact this
     ·have au:u.i≠t.i:=λe=>by
       have:=c.uniq F (by rw[R,M];simp at hu ⊢;exact .inr hu) e;subst this;obtain⟨bX,H,W⟩:=am;rw[s]at W;cases W
      rw[S _ au];exact az u (by rw[M];exact hu) am
    ·rw[aw]at z;cases z
   |dL v H'=>
    obtain⟨zC,zD,M⟩:=a6 (by rw[s];rfl);have n:T=(T1++zC)++t::zD:=by rw[R,M];simp
    have aY:=(c.at n).2.2.1;rcases oh aY with⟨_,aD⟩|⟨z,_⟩
    ·rw[s]at aD;have W:=kF.congr (λx z=>(aN x z).symm) aD;have G:ed (cb T1 H0) (zC++t::zD):=by
      have:=aq;rw[R,M]at this;exact(ed.append this).2
     have a9:=c.dL;rw[n]at a9;have a8:=(rq a9 s).2;rw[M]at m;have m1:=eK.turns (zC:=zC) (zD:=t::zD) (L:=cZ listed) G (λu hu y=>by
      have ah:=j3 o.closed _ _ al hw _ (a8 u (by simp[hu]) y);refine⟨ah,?_⟩;cases bf:u.k with
      |new x b=>exact⟨x,b,rfl⟩
      |dL x H=>rw[az u (by rw[M];simp[hu]) ⟨x,H,bf⟩]at ah;cases ah
      |_=>rw[bf]at y;cases y) m
     rw[qz (λv b h=>by rw[s]at h;cases h),s]at m1;simp only[K.heap]at m1;have a1:ed H' zD:=by have:=(ed.append G).2.2;rw[s]at this;exact this
     have bs:bJ=cb zD H':=by rw[(j4 c.aE).2.1,n,jz,cb,s];rfl
     have bt:H'.next<=bJ.next:=by rw[bs];exact a1.le
     rw[jz]at W;refine yf (H:=cb zC (cb T1 H0)) (H':=H') bv m1.rel ⟨λl g1 g2=>m1.fresh l g1 af ?_,Env.le_trans bq m1.le⟩ W ak λx bY b0 g1 g2=> ?_
     ·cases a2:dM (cZ listed) zD H' l with
      |none=>rfl
      |some b=>have:=qy a1 a2;omega
     ·have m2:=m1.step g2 bt (λl b a2=>qy a1 a2);refine aH _ _ _ (c.next F o.size o.closed aa hw (ak.mono g2.le) a4 aO (by rw[s];exact g1) (T1:=T1++zC++[t]) (T2:=zD) ⟨by rw[n];simp,λu hu aj=> ?_,λu hu am=> ?_,?_⟩) aV
      ·by_cases e:u.i=t.i
       ·rw[e];exact an
       ·rw[S _ e];simp only[List.mem_append,List.mem_singleton]at hu;rcases hu with(hu|hu)|rfl
        ·exact ay u hu aj
        ·exact j3 o.closed _ _ al hw _ (a8 u (by simp[hu]) aj)
        ·exact absurd rfl e
      ·rw[S _ (Ne.symm (c.after n hu).1)];exact az u (by rw[M];simp[hu]) am
      ·have br:cb (T1++zC++[t]) H0=H':=by rw[jz,cb,s];rfl
       rw[br,qx (L':=cZ listed) λu hu v b O=>S _ (Ne.symm (c.after n hu).1)];exact m2
    ·rw[aw]at z;cases z
  ·rw[aw];simp only[Bool.false_eq_true,if_false];exact still (by rw[O];rfl) undef (by rw[O];exact .tuple [] [] .nil)
def MY{id:Nat}{a:Act}{w:World}(hm:P.follows .mixedOrders=X)(u:iN E P call)(c:Ctx P call ops ord dZ H0 T cv bJ)(s:Rel ρ0 H0 w)(n:hB E ρ0 H0.next bJ.next)(x:dC ρ0 dZ a)
  (q:∀ρ a m,dC ρ cv a->Step ρ0 H0 w ρ bJ m->Q .normal a m):(Code.region id ops X).wp P Q a w:=by
 have k:∀j,cZ (Array.replicate ops.size U) j=false:=λj=>by
  unfold cZ;rw[Array.getD_eq_getD_getElem?];by_cases h:j<ops.size<;>simp[h]
 refine wp_region_any hm (c.any (ρ0:=ρ0) (w0:=w.drew) u n.le (λρ a m p e=>q ρ a m p ?_) _ _ _ _ ⟨by simp,λi ai _ v=>absurd v (by rw[k];simp),ρ0,[],T,rfl,by simp,λt _ _=>k _,?_,dZ,x,rfl,λd=> ?_⟩ ?_)
 ·exact⟨e.le,e.next,e.aX,e.rel,e.os,e.tape,e.output,e.size,e.frame,e.own,e.ro⟩
 ·have aG:dM (cZ (Array.replicate ops.size U)) T (cb [] H0)=λ_=>none:=by
   have:∀(T:List bF) (H:ae),dM (cZ (Array.replicate ops.size U)) T H=λ_=>none:=by
    intro T
    induction T with
    |nil=>intro H;rfl
    |cons t T o=>
     intro H
     funext l
     unfold dM;split
     ·rw[o,k];simp
     ·rw[o]
   exact this T _
  rw[aG];exact eK.start s.drew n.new
 ·rw[sa λt _ _=>k _]
 ·refine Nat.le_trans List.countP_le_length ?_;simp
end
def ha(P:Program)(call:ay)(ops:Array Oper):List Oper->a_->ae->Option (a_×ae)
 |[],ad,H=>D (ad,H)
 |ai::os,ad,H=>match gU P call ops ai ad H with
  |none=>Z
  |some k=>match ad.put ai.dst k.val with
   |none=>Z
   |some a8=>ha P call ops os a8 (k.heap H)
def Ft(ai:Oper):Bool:=match cls ai.op with
 | .write=>X
 | .call=>X
 |_=>U
def need(m:Nat)(done:Nat):List Nat->List Nat
 |[]=>[]
 |j::a=>if m.testBit j&& !done.testBit j then j::need m done a else need m done a
def De(done:Nat):List Nat->Nat
 |[]=>done
 |j::a=>De (done|||2^j) a
def vh(ms all:List Nat):List (Nat×Oper)->Nat->List Nat
 |[],done=>need (2^all.length-1) done all
 |(i,ai)::is,done=>if Ft ai&& !done.testBit i then
   (let a:=need (ms[i]?.getD 0) done all
    a++i::vh ms all is (De done a|||2^i))
  else vh ms all is done
def E3:Nat->List Oper->List (Nat×Oper)
 |_,[]=>[]
 |i,ai::os=>(i,ai)::E3 (i+1) os
def order(ops:Array Oper):List Nat:=vh (dv ops) (List.range ops.size) (E3 0 ops.toList) 0
def e3(P:Program)(call:ay)(ops:Array Oper)(draw:Bool)(ad:a_)(H:ae):Option (a_×ae):=
 match draw with
 |false=>ha P call ops ops.toList ad H
 |true=>match canRun P call ops (order ops) ad H with
  |none=>Z
  |some (T,a8,H')=>match iw (dv ops) T []with
   |false=>Z
   |true=>match kC P (dv ops) (tied ops (dv ops) (order ops)) T H T with
    |false=>Z
    |true=>D (a8,H')
def jH:Code->Bool
 | .region _ ops X=>oD ops (dv ops) (order ops)
 | .seq a b=>jH a&&jH b
 | .cond _ a b=>jH a&&jH b
 | .block _ b=>jH b
 | .loop b=>jH b
 |_=>X
inductive aL where
 |normal
 |exit (id:Nat)
 |ret
def aL.tZ:aL->Exit
 | .normal=> .normal
 | .exit id=> .exit id
 | .ret=> .ret
abbrev ra:=Array Oper->Bool->a_->ae->Option (a_×ae)
def iter(f:a_->ae->Option (aL×a_×ae)):Nat->a_->ae->Option (aL×a_×ae)
 |0,_,_=>Z
 |n+1,ad,H=>match f ad H with
  |some (.normal,a8,H')=>iter f n a8 H'
  |r=>r
def cy(gY:ra)(N:Nat):Code->a_->ae->Option (aL×a_×ae)
 | .skip,ad,H=>D (.normal,ad,H)
 | .region _ ops d,ad,H=>match gY ops d ad H with
  |some (a8,H')=>D (.normal,a8,H')
  |none=>Z
 | .seq a b,ad,H=>match cy gY N a ad H with
  |some (.normal,a8,H')=>cy gY N b a8 H'
  |r=>r
 | .cond c a b,ad,H=>match b4 ad c with
  |some (.bool X)=>cy gY N a ad H
  |some (.bool U)=>cy gY N b ad H
  |_=>Z
 | .block id b,ad,H=>match cy gY N b ad H with
  |some (.exit e,a8,H')=>if e=id then D (.normal,a8,H')else D (.exit e,a8,H')
  |r=>r
 | .loop b,ad,H=>iter (λad H=>cy gY N b ad H) N ad H
 | .exit id,ad,H=>D (.exit id,ad,H)
 | .ret,ad,H=>D (.ret,ad,H)
 | .label _,ad,H=>D (.normal,ad,H)
 |_,_,_=>Z
def a_.ql(t:bn aa):Nat->List aa->bn aa
 |_,[]=>t
 |i,v::a=>a_.ql (bn.put v (i+1) t i) (i+1) a
def a_.enter(n:Nat)(args:List aa):a_:=⟨a_.ql .leaf 0 args,args.length+(n-args.length)⟩
def n3(P:Program)(ad:a_)(H:ae):ResultVar->Option aa
 | .tmp t=>D (ad.get t)
 | .cell a t=>an P H t (ad.get a)
def gR(P:Program)(ad:a_)(H:ae):List ResultVar->Option (List aa)
 |[]=>D []
 |r::rs=>match n3 P ad H r,gR P ad H rs with
  |some v,D a=>D (v::a)
  |_,_=>Z
def lv:List aa->aa
 |[v]=>v
 |a=> .tuple a
def b6(P:Program)(az:ay)(N:Nat):Nat->ay
 |0,_,_,_=>Z
 |n+1,f,args,H=>match az f args H with
 |some r=>D r
 |none=>match P.funcs[f]? with
  |none=>Z
  |some fn=>match fn.body with
   |none=>Z
   |some c=>match cy (e3 P (b6 P az N n)) N c (a_.enter fn.ntmps args) H with
    |none=>Z
    |some (ex,ad,H')=>match ex with
     | .exit _=>Z
     |_=>match gR P ad H' fn.results.toList with
      |none=>Z
      |some a=>D (lv a,H')
section
variable {E:Env}{P:Program}{az:ay}{call:ay}{gY:ra}{N:Nat}
def vO{ops:Array Oper}:∀{os:List Oper} {ad a8:a_} {H H':ae},ha P call ops os ad H=D (a8,H')->H.next<=H'.next
 |[],ad,a8,H,H',h=>by
  simp only[ha,aU,bY]at h;obtain⟨rfl,rfl⟩:=h;exact bk _
 |ai::os,ad,a8,H,H',h=>by
  simp only[ha]at h;split at h
  ·cases h
  ·rename_i k a;split at h
   ·cases h
   ·exact Nat.le_trans (uI a) (vO h)
def tk(gY:ra):Prop:=∀ops d ad H a8 H',gY ops d ad H=D (a8,H')->H.next<=H'.next
def CI:tk (e3 P call):=by
 intro ops d ad H a8 H' h;unfold e3 at h;split at h
 ·exact vO h
 ·split at h
  ·cases h
  ·rename_i T c H1 a;split at h
   ·cases h
   ·split at h
    ·cases h
    ·simp only[aU,bY]at h;obtain⟨rfl,rfl⟩:=h;rw[(j4 a).2.1];exact(pM a).le
def rF{f:a_->ae->Option (aL×a_×ae)}(a:∀ad H ex a8 H',f ad H=D (ex,a8,H')->H.next<=H'.next):∀{n:Nat} {ad:a_} {H:ae} {ex:aL} {a8:a_} {H':ae},
  iter f n ad H=D (ex,a8,H')->H.next<=H'.next
 |0,_,_,_,_,_,h=>by cases h
 |n+1,ad,H,ex,a8,H',h=>by
  simp only[iter]at h;split at h
  ·rename_i d H1 c;exact Nat.le_trans (a _ _ _ _ _ c) (rF a h)
  ·exact a _ _ _ _ _ h
def yi(n:tk gY):∀(c:Code) {ad:a_} {H:ae} {ex:aL} {a8:a_} {H':ae},cy gY N c ad H=D (ex,a8,H')->H.next<=H'.next:=by
 intro c
 induction c with
 |skip=>intro ad H ex a8 H' h;simp only[cy,aU,bY]at h;obtain⟨_,_,rfl⟩:=h;exact bk _
 |region id ops d=>
  intro ad H ex a8 H' h;simp only[cy]at h;split at h
  ·rename_i m H1 e;simp only[aU,bY]at h;obtain⟨_,_,rfl⟩:=h;exact n _ _ _ _ _ _ e
  ·cases h
 |seq a b j k=>
  intro ad H ex a8 H' h;simp only[cy]at h;split at h
  ·rename_i m H1 e;exact Nat.le_trans (j e) (k h)
  ·exact j h
 |cond c a b j k=>
  intro ad H ex a8 H' h;simp only[cy]at h;split at h
  ·exact j h
  ·exact k h
  ·cases h
 |block id b i=>
  intro ad H ex a8 H' h;simp only[cy]at h;split at h
  ·rename_i o m H1 e;have:=i e;split at h<;>(simp only[aU,bY]at h;obtain⟨_,_,rfl⟩:=h;exact this)
  ·exact i h
 |loop b i=>
  intro ad H ex a8 H' h;simp only[cy]at h;exact rF (λ_ _ _ _ _ h=>i h) h
 |exit id=>intro ad H ex a8 H' h;simp only[cy,aU,bY]at h;obtain⟨_,_,rfl⟩:=h;exact bk _
 |ret=>intro ad H ex a8 H' h;simp only[cy,aU,bY]at h;obtain⟨_,_,rfl⟩:=h;exact bk _
 |label l=>intro ad H ex a8 H' h;simp only[cy,aU,bY]at h;obtain⟨_,_,rfl⟩:=h;exact bk _
 |goto l=>intro ad H ex a8 H' h;cases h
 |scope b i=>intro ad H ex a8 H' h;cases h
 |rangeFunc f p a b j k=>intro ad H ex a8 H' h;cases h
 |refuse y=>intro ad H ex a8 H' h;cases h
def Dd(s:iN E P call){ops:Array Oper}{Q:Exit->Act->World->Prop}:∀{os:List Oper} {ad a8:a_} {H H':ae} {ρ:Env} {w:World} {a:Act},ha P call ops os ad H=D (a8,H')->
  Rel ρ H w->hB E ρ H.next H'.next->dC ρ ad a->(∀d bZ c,dC d a8 bZ->Step ρ H w d H' c->Q .normal bZ c)->wpList P ops Q os a w
 |[],ad,a8,H,H',ρ,w,a,h,e,_,i,p=>by
  simp only[ha,aU,bY]at h;obtain⟨rfl,rfl⟩:=h;exact p ρ a w i (.refl e)
 |ai::os,ad,a8,H,H',ρ,w,a,h,e,q,i,p=>by
  simp only[ha]at h;split at h
  ·cases h
  ·rename_i k y;split at h
   ·cases h
   ·rename_i ab A;have z:=vO h;have ag:=uI y;have go:∀x c d,bd d k.val x->Step ρ H w d (k.heap H) c->wpList P ops Q os (a.put ai.dst x) c:=λx c d m aB=>
     Dd s h aB.rel (q.after aB) ((i.mono aB.le).put A m) λW a2 V n o=>p W a2 V n (aB.trans o)
    unfold wpList;rw[xn i ai];rcases oh y with⟨hw,j⟩|⟨hw,rfl⟩
    ·rw[hw];simp only[if_true];refine .inl ?_;cases k with
     |skip=>exact j.elim
     |pure v=>exact Cm j i λx m=>go x w ρ m (.refl e)
     |read v=>exact CG e j i λx m=>go x w ρ m (.refl e)
     |new v b=>
      have u:ρ H.next=none:=q.new _ (bk _) (by simp only[K.heap,ae.bT]at z;omega)
      refine BT j i u λx c d loc aZ L M N O R gJ S T B F G=>go x c d aZ ?_
      have m0:eK ρ H w (H.next+1) (λ_=>Z) ρ H w:=eK.start e λl n o=>by
       have:l=H.next:=af
       rw[this];exact u
      have m1:=m0.early (bk _) af rfl L M N O R gJ S T B F G;exact(m1.Ev (b:=b) (by simp)).done rfl
     |dL v aa=>
      exact yf s e (q.left z) j i λx c d n o=>go x c d n o
    ·rw[hw];simp only[Bool.false_eq_true,if_false];exact go undef w ρ (.tuple [] [] .nil) (.refl e)
def wW(E:Env)(P:Program)(gY:ra):Prop:=∀(id:Nat) (ops:Array Oper) (d:Bool) (ad:a_) (H:ae) (a8:a_) (H':ae),gY ops d ad H=D (a8,H')->(d=X->oD ops (dv ops) (order ops)=X)->∀(ρ:Env) (w:World) (a:Act) (Q:Exit->Act->World->Prop),Rel ρ H w->hB E ρ H.next H'.next->dC ρ ad a->(∀e bZ c,dC e a8 bZ->Step ρ H w e H' c->Q .normal bZ c)->(Code.region id ops d).wp P Q a w
def CJ(hm:P.follows .mixedOrders=X)(i:iN E P call):wW E P (e3 P call):=by
 intro id ops d ad H a8 H' h m ρ w a Q e j k c;unfold e3 at h;split at h
 ·exact wp_region_list (Dd i h e j k c)
 ·split at h
  ·cases h
  ·rename_i T p H1 l;split at h
   ·cases h
   ·rename_i n;split at h
    ·cases h
    ·rename_i o;simp only[aU,bY]at h;obtain⟨rfl,rfl⟩:=h;exact MY hm i ⟨l,m rfl,n,o⟩ e j k c
def MZ{c:Code}{Q:Exit->Act->World->Prop}(p:Nat->Act->World->Prop)(round:∀n a w,p n a w->∃m,n=m+1/\c.wp P (Exit.then (p m) Q) a w){n:Nat}{a:Act}{w:World}(z:p n a w):(Code.loop c).wp P Q a w:=by
 intro b k cs;have key:∀n a w,p n a w->∃e bZ q,Q e bZ q/\Arrives P (lone (b.at a (.code c:: .inLoop c::k)) cs w) b k cs e bZ q:=by
  intro n
  induction n with
  |zero=>intro a w h;obtain⟨m,hm,_⟩:=round 0 a w h;omega
  |succ n A=>
   intro a w h;obtain⟨m,hm,hw⟩:=round _ a w h;obtain rfl:m=n:=af;obtain⟨e,j,o,i,d⟩:=hw b (.inLoop c::k) cs;cases e with
   |normal=>
    obtain⟨u,s,B,y,v⟩:=A j o i;exact⟨u,s,B,y,.of_steps (Steps.trans d (.one step_inLoop)) v⟩
   |exit id=>exact⟨_,j,o,i,.pass (x:= .inLoop c) rfl (λ_ _=> .inl (by simp)) d⟩
   |goto l=>exact⟨_,j,o,i,.pass (x:= .inLoop c) rfl (λ_ _=> .inl (by simp)) d⟩
   |ret=>exact⟨_,j,o,i,.pass (x:= .inLoop c) rfl (λ_ _=> .inl (by simp)) d⟩
   |panic E=>exact⟨_,j,o,i,.pass (x:= .inLoop c) rfl (λ_ _=> .inl (by simp)) d⟩
   |outgrown=>exact⟨_,j,o,i,.pass (x:= .inLoop c) rfl (λ_ _=> .inl (by simp)) d⟩
 obtain⟨e,bZ,q,i,d⟩:=key _ a w z;exact⟨e,bZ,q,i,.of_steps (.one step_loop) d⟩
def s_(E:Env)(P:Program)(c:Code)(f:a_->ae->Option (aL×a_×ae)):Prop:=∀(ad:a_) (H:ae) (ex:aL) (a8:a_) (H':ae),f ad H=D (ex,a8,H')->∀(ρ:Env) (w:World) (a:Act) (Q:Exit->Act->World->Prop),Rel ρ H w->hB E ρ H.next H'.next->dC ρ ad a->(∀e bZ d,dC e a8 bZ->Step ρ H w e H' d->Q ex.tZ bZ d)->c.wp P Q a w
def HL{c:Code}{f:a_->ae->Option (aL×a_×ae)}(l:s_ E P c f)(o:∀ad H ex a8 H',f ad H=D (ex,a8,H')->H.next<=H'.next)(n:Nat):s_ E P (.loop c) (iter f n):=by
 intro ad H ex a8 H' h ρ w a Q y m B x;refine MZ (n:=n) (λn aR i=>∃j H1 e,iter f n j H1=D (ex,a8,H')/\Step ρ H w e H1 i/\dC e j aR) ?_ ⟨ad,H,ρ,h,.refl y,B⟩;rintro n aR i ⟨j,H1,e,d,aB,p⟩;cases n with
 |zero=>cases d
 |succ n=>
  refine⟨n,rfl,?_⟩;have hle:=rF o d;simp only[iter]at d;split at d
  ·rename_i u s v;have z:=rF o d;refine l _ _ _ _ _ v e i aR _ aB.rel (hB.left (hB.after m aB) z) p λk a2 q g1 g2=> ?_
   exact⟨u,s,k,d,aB.trans g2,g1⟩
  ·rename_i A;refine l _ _ _ _ _ d e i aR _ aB.rel (hB.after m aB) p λk a2 q g1 g2=> ?_
   have:=x k a2 q g1 (aB.trans g2);cases ex with
   |normal=>exact absurd d (A _ _)
   |exit id=>exact this
   |ret=>exact this
def yk(B:tk gY)(G:wW E P gY):∀(c:Code),jH c=X->s_ E P c (cy gY N c):=by
 intro c
 induction c with
 |skip=>
  intro _ ad H ex a8 H' h ρ w a Q j k e i;simp only[cy,aU,bY]at h;obtain⟨rfl,rfl,rfl⟩:=h;exact wp_skip (i ρ a w e (.refl j))
 |region id ops d=>
  intro aG ad H ex a8 H' h ρ w a Q j k e i;simp only[cy]at h;split at h
  ·rename_i A H1 m;simp only[aU,bY]at h;obtain⟨rfl,rfl,rfl⟩:=h;exact G id ops d ad H _ _ m (λF=>by subst F;exact aG) ρ w a Q j k e i
  ·cases h
 |seq x y q s=>
  intro aG ad H ex a8 H' h ρ w a Q j k e i;simp only[jH,Bool.and_eq_true]at aG;simp only[cy]at h;refine wp_seq ?_;split at h
  ·rename_i A H1 m;have hle:=yi B y h;refine q aG.1 _ _ _ _ _ m ρ w a _ j (k.left hle) e λo aR n g1 g2=> ?_
   exact s aG.2 _ _ _ _ _ h o n aR Q g2.rel (k.after g2) g1 λM a2 L g3 g4=>i M a2 L g3 (g2.trans g4)
  ·rename_i v;refine q aG.1 _ _ _ _ _ h ρ w a _ j k e λo aR n g1 g2=> ?_
   have:=i o aR n g1 g2;cases ex with
   |normal=>exact absurd h (v _ _)
   |exit id=>exact this
   |ret=>exact this
 |cond c x y q s=>
  intro aG ad H ex a8 H' h ρ w a Q j k e i;simp only[jH,Bool.and_eq_true]at aG;simp only[cy]at h;split at h
  ·rename_i u;have m:=dh e u;refine wp_cond_true (by generalize a.eval c=z at m;cases m;rfl) ?_;exact q aG.1 _ _ _ _ _ h ρ w a Q j k e i
  ·rename_i u;have m:=dh e u;refine wp_cond_false (by generalize a.eval c=z at m;cases m;rfl) ?_;exact s aG.2 _ _ _ _ _ h ρ w a Q j k e i
  ·cases h
 |block id b p=>
  intro aG ad H ex a8 H' h ρ w a Q j k e i;simp only[cy]at h;refine wp_block ?_;split at h
  ·rename_i K A H1 m;split at h
   ·rename_i hid;simp only[aU,bY]at h;obtain⟨rfl,rfl,rfl⟩:=h;refine p aG _ _ _ _ _ m ρ w a _ j k e λo aR n g1 g2=> ?_
    have:=i o aR n g1 g2;simp only[aL.tZ,Exit.inBlock,hid,if_true];exact this
   ·rename_i hid;simp only[aU,bY]at h;obtain⟨rfl,rfl,rfl⟩:=h;refine p aG _ _ _ _ _ m ρ w a _ j k e λo aR n g1 g2=> ?_
    have:=i o aR n g1 g2;simp only[aL.tZ,Exit.inBlock,hid,if_false];exact this
  ·rename_i v;refine p aG _ _ _ _ _ h ρ w a _ j k e λo aR n g1 g2=> ?_
   have:=i o aR n g1 g2;cases ex with
   |normal=>exact this
   |exit K=>exact absurd h (v _ _ _)
   |ret=>exact this
 |loop b p=>
  intro aG ad H ex a8 H' h ρ w a Q j k e i;simp only[cy]at h;exact HL (p aG) (λ_ _ _ _ _ h=>yi B b h) N ad H ex a8 H' h ρ w a Q j k e i
 |exit id=>
  intro _ ad H ex a8 H' h ρ w a Q j k e i;simp only[cy,aU,bY]at h;obtain⟨rfl,rfl,rfl⟩:=h;exact wp_exit (i ρ a w e (.refl j))
 |ret=>
  intro _ ad H ex a8 H' h ρ w a Q j k e i;simp only[cy,aU,bY]at h;obtain⟨rfl,rfl,rfl⟩:=h;exact wp_ret (i ρ a w e (.refl j))
 |label l=>
  intro _ ad H ex a8 H' h ρ w a Q j k e i;simp only[cy,aU,bY]at h;obtain⟨rfl,rfl,rfl⟩:=h;exact wp_label (i ρ a w e (.refl j))
 |goto l=>intro _ ad H ex a8 H' h;cases h
 |scope b p=>intro _ ad H ex a8 H' h;cases h
 |rangeFunc f O a b q s=>intro _ ad H ex a8 H' h;cases h
 |refuse y=>intro _ ad H ex a8 H' h;cases h
def va:∀(args:List aa) (t:bn aa) (i d:Nat),(a_.ql t i args).get d=if i<=d/\d<i+args.length then args[d-i]? else t.get d
 |[],t,i,d=>by simp only[a_.ql,List.length_nil];rw[if_neg af]
 |v::e,t,i,d=>by
  simp only[a_.ql];rw[va e];by_cases a:i+1<=d/\d<i+1+e.length
  ·rw[if_pos a,if_pos (by simp;omega),show d-i=(d-(i+1))+1 by omega];simp
  ·rw[if_neg a];by_cases c:d=i
   ·subst c;rw[bn.p3 _ _ _ _ af,if_pos (by simp)];simp
   ·rw[bn.p2 _ _ _ _ _ (Ne.symm c),if_neg (by simp;omega)]
def yg{ρ:Env}{args:List aa}{xs:List Value}(h:bq ρ args xs)(n:Nat):dC ρ (a_.enter n args) {tmps:=xs.toArray++Array.replicate (n-xs.toArray.size) undef,defers:=[]}:=by
 have i:=h.length;refine⟨by simp[a_.enter,i],λd=> ?_,rfl⟩;unfold a_.get a_.enter;simp only
 rw[va];rw[Array.getD_eq_getD_getElem?];by_cases e:d<args.length
 ·rw[if_pos af];obtain⟨v,c⟩:∃v,args[d]? =D v:=⟨args[d],by simp[e]⟩;obtain⟨x,k,j⟩:=h.get d v c;have a:(xs.toArray++Array.replicate (n-xs.toArray.size) undef)[d]? =D x:=by
   rw[Array.getElem?_append_left (by simp;omega)];simpa using k
  rw[a];simp only[Nat.sub_zero,c,Option.getD_some];exact j
 ·rw[if_neg af];have a:((xs.toArray++Array.replicate (n-xs.toArray.size) undef)[d]?).getD undef=undef:=by
   rw[Array.getElem?_append_right (by simp;omega)];simp only[Array.getElem?_replicate];split<;>rfl
  rw[a,bn.pZ];exact .tuple [] [] .nil
def qG(tmps:Array Value):ResultVar->Sem Value
 | .tmp t=>pure (tmps.getD t undef)
 | .cell b t=>do loadVar t (<-asAddr (tmps.getD b undef))
def F7{ρ:Env}{H:ae}{w:World}{ad:a_}{a:Act}(m:Rel ρ H w)(e:dC ρ ad a){r:ResultVar}{v:aa}(h:n3 P ad H r=D v):
  ∃x,(qG a.tmps r).run P w= .ok x w/\bd ρ v x:=by
 cases r with
 |tmp t=>
  simp only[n3,aU]at h;subst h;exact⟨_,rfl,e.get t⟩
 |cell b t=>
  simp only[n3]at h;obtain⟨x,j,k⟩:=tA m h (e.get b);refine⟨x,?_,k⟩;have d:=e.get b;simp only[qG];generalize a.tmps.getD b undef=z at d j ⊢;have aG:∃l i c,ad.get b= .ptr l i c:=by
   generalize ad.get b=u at h;unfold an at h;cases u<;>first|exact⟨_,_,_,rfl⟩|(exfalso;simp at h)
  obtain⟨l,i,c,aG⟩:=aG;rw[aG]at d;cases d;simpa [Instr.loadAt,Instr.sureAddr,asAddr]using j
def xf{ρ:Env}{H:ae}{w:World}{ad:a_}{a:Act}(d:Rel ρ H w)(e:dC ρ ad a):∀{rs:List ResultVar} {c:List aa},gR P ad H rs=D c->
  ∃xs:List Value,(rs.mapM (qG a.tmps)).run P w= .ok xs w/\bq ρ c xs
 |[],c,h=>by simp only[gR,aU]at h;subst h;exact⟨[],by simp[Sem.run_pure],.nil⟩
 |r::rs,c,h=>by
  simp only[gR]at h;split at h
  ·rename_i v o m n;simp only[aU]at h;subst h;obtain⟨x,i,j⟩:=F7 d e m;obtain⟨xs,k,l⟩:=xf d e n;refine⟨x::xs,?_,.cons _ _ _ _ j l⟩;rw[List.mapM_cons];simp only[Sem.run_bind,Result.andThen_ok,Sem.run_pure,i,k]
  ·cases h
def Jd(fn:Func)(tmps:Array Value):results fn tmps=(do
  let a<-fn.results.mapM (qG tmps)
  pure (if h:a.size=1 then a[0]else .tuple a)):=by
 unfold results
 congr 1
def CM{ρ:Env}{H:ae}{w:World}{ad:a_}{a:Act}(m:Rel ρ H w)(n:dC ρ ad a){fn:Func}{d:List aa}(h:gR P ad H fn.results.toList=D d):
  ∃x,(results fn a.tmps).run P w= .ok x w/\bd ρ (lv d) x:=by
 obtain⟨xs,e,i⟩:=xf m n h;have hm:(fn.results.mapM (qG a.tmps)).run P w= .ok xs.toArray w:=by
  rw[Array.mapM_eq_mapM_toList];simp only[Sem.run_map,e,Result.andThen_ok]
 refine⟨if h:xs.toArray.size=1 then xs.toArray[0]else .tuple xs.toArray,?_,?_⟩
 ·rw[Jd];simp only[Sem.run_bind,hm,Result.andThen_ok,Sem.run_pure]
 ·cases i with
  |nil=>exact .tuple [] [] .nil
  |cons v x p u c j=>
   cases j with
   |nil=>exact c
   |cons o s q y k l=>
    simp only[lv];rw[dif_neg (by simp)];exact .tuple _ _ (.cons _ _ _ _ c (.cons _ _ _ _ k l))
structure mj(P:Program):Prop where
 mixed:P.follows .mixedOrders=true
 names:∀fn∈P.funcs,(fn.name== "runtime.NumGoroutine")=false
 Cj:∀(f:Nat) (fn:Func) (c:Code),P.funcs[f]? =some fn->fn.body=some c->jH c=true
def yl(a:mj P)(l:iN E P az):∀n,iN E P (b6 P az N n)
 |0=>λg args H v H' h=>by cases h
 |n+1=>by
  intro g args H v H' h ρ w xs m p o B next q
  simp only[b6]at h;split at h
  ·rename_i r K;cases h;exact l g args H v H' K ρ w xs m p o B next q
  split at h
  ·cases h
  ·rename_i fn d;split at h
   ·cases h
   ·rename_i c i;split at h
    ·cases h
    ·rename_i ex ad H1 z;have O:=yl a l n;have y:=yk (N:=N) CI (CJ a.mixed O) c (a.Cj _ _ _ d i);have F:(fn.name== "runtime.NumGoroutine")=false:=a.names fn (Array.mem_of_getElem? d);have L:(callFunc g xs.toArray).run P w= .ok (.enter g xs.toArray) w:=by
      unfold callFunc;simp[d,i];intro A;simp[A]at F
     unfold lq;rw[L];simp only
     split at h
     ·cases h
     ·rename_i G;split at h
      ·cases h
      ·rename_i S M;simp only[aU,bY]at h;obtain⟨rfl,rfl⟩:=h;refine calls_of_wp d i (y _ _ _ _ _ z ρ w _ _ m p (yg o fn.ntmps) λR bZ Q e k=> ?_);obtain⟨x,j,u⟩:=CM k.rel e M;have s:=q x Q R u k;cases ex with
       |normal=>exact⟨e.none,x,j,s⟩
       |ret=>exact⟨e.none,x,j,s⟩
       |exit id=>exact absurd rfl (G id)
end
section
variable {E:Env}{P:Program}{az:ay}
def mi(P:Program)(az:ay)(f:Nat)(args:List aa)(H:ae)(r:aa×ae):Prop:=∃k,∀N,k<=N->∀n,k<=n->b6 P az N n f args H=D r
def mi.uniq{f:Nat}{args:List aa}{H:ae}{r s:aa×ae}(h:mi P az f args H r)(ba:mi P az f args H s):r=s:=by
 obtain⟨k,d⟩:=h;obtain⟨j,c⟩:=ba;have a:=d (max k j) (Nat.le_max_left ..) (max k j) (Nat.le_max_left ..);rw[c (max k j) (Nat.le_max_right ..) (max k j) (Nat.le_max_right ..)]at a;exact(Option.some.inj a).symm
open Classical in
noncomputable def aC(P:Program)(az:ay):ay:=λf args H=>if h:∃r,mi P az f args H r then D h.choose else Z
def yn{f:Nat}{args:List aa}{H:ae}{r:aa×ae}(h:aC P az f args H=D r):mi P az f args H r:=by
 unfold aC at h;split at h
 ·rename_i a;rw[<-Option.some.inj h];exact a.choose_spec
 ·cases h
def Bi{f:Nat}{args:List aa}{H:ae}{r:aa×ae}(h:mi P az f args H r):aC P az f args H=D r:=by
 unfold aC;have a:∃r,mi P az f args H r:=⟨r,h⟩;rw[dif_pos a];exact congrArg D (a.choose_spec.uniq h)
def GQ(c:mj P)(a:iN E P az):iN E P (aC P az):=by
 intro g args H v H' h;obtain⟨k,d⟩:=yn h;exact yl c a k g args H v H' (d k (bk _) k (bk _))
def Mn{ai:Op}{ad:a_}{H:ae}{x:K}(h:step1 P (aC P az) ai ad H=D x):∃k,∀N,k<=N->∀n,k<=n->step1 P (b6 P az N n) ai ad H=D x:=by
 unfold step1 at h;unfold step1;split at h
 ·exact⟨0,λ_ _ _ _=>h⟩
 ·exact⟨0,λ_ _ _ _=>h⟩
 ·exact⟨0,λ_ _ _ _=>h⟩
 ·exact⟨0,λ_ _ _ _=>h⟩
 ·exact⟨0,λ_ _ _ _=>h⟩
 ·split at h
  ·split at h
   ·rename_i g j d;cases a:aC P az g j H with
    |none=>rw[a]at h;cases h
    |some r=>
     obtain⟨k,e⟩:=yn a;refine⟨k,λN c n i=> ?_⟩;rw[a]at h;simp only[d,e N c n i];exact h
   ·cases h
  ·cases h
def AS{ops:Array Oper}{ai:Oper}{ad:a_}{H:ae}{x:K}(h:gU P (aC P az) ops ai ad H=D x):∃k,∀N,k<=N->∀n,k<=n->gU P (b6 P az N n) ops ai ad H=D x:=by
 unfold gU at h;unfold gU;split at h
 ·rename_i hw;obtain⟨k,c⟩:=Mn h;exact⟨k,λN a n d=>c N a n d⟩
 ·exact⟨0,λ_ _ _ _=>h⟩
def Dc{ops:Array Oper}:∀{os:List Oper} {ad:a_} {H:ae} {x:a_×ae},ha P (aC P az) ops os ad H=D x->∃k,∀N,k<=N->∀n,k<=n->ha P (b6 P az N n) ops os ad H=D x
 |[],ad,H,x,h=>⟨0,λ_ _ _ _=>h⟩
 |ai::os,ad,H,x,h=>by
  simp only[ha]at h;split at h
  ·cases h
  ·rename_i y e;split at h
   ·cases h
   ·rename_i a8 a;obtain⟨k,d⟩:=AS e;obtain⟨j,c⟩:=Dc h;refine⟨max k j,λN i n l=> ?_⟩;simp only[ha,d N af n af,a,c N af n af]
def x3{ops:Array Oper}:∀{is:List Nat} {ad:a_} {H:ae} {x:List bF×a_×ae},canRun P (aC P az) ops is ad H=D x->∃k,∀N,k<=N->∀n,k<=n->canRun P (b6 P az N n) ops is ad H=D x
 |[],ad,H,x,h=>⟨0,λ_ _ _ _=>h⟩
 |i::is,ad,H,x,h=>by
  simp only[canRun]at h;split at h
  ·cases h
  ·rename_i ai l;split at h
   ·cases h
   ·rename_i y m;split at h
    ·cases h
    ·rename_i a8 a;split at h
     ·cases h
     ·rename_i T cv bJ c;obtain⟨k,e⟩:=AS m;obtain⟨j,d⟩:=x3 c;refine⟨max k j,λN o n p=> ?_⟩;simp only[canRun,l,e N af n af,a,d N af n af];exact h
def I_{ops:Array Oper}{d:Bool}{ad:a_}{H:ae}{x:a_×ae}(h:e3 P (aC P az) ops d ad H=D x):∃k,∀N,k<=N->∀n,k<=n->e3 P (b6 P az N n) ops d ad H=D x:=by
 unfold e3 at h;unfold e3;split at h
 ·obtain⟨k,c⟩:=Dc h;exact⟨k,λN a n e=>c N a n e⟩
 ·split at h
  ·cases h
  ·rename_i T a8 H' i;obtain⟨k,c⟩:=x3 i;refine⟨k,λN a n e=> ?_⟩;simp only[c N a n e];exact h
def AN{f:a_->ae->Option (aL×a_×ae)}:∀{n m:Nat} {ad:a_} {H:ae} {x:aL×a_×ae},iter f n ad H=D x->n<=m->iter f m ad H=D x
 |0,_,_,_,_,h,_=>by cases h
 |n+1,0,_,_,_,_,hm=>af
 |n+1,m+1,ad,H,x,h,hm=>by
  simp only[iter]at h ⊢;split at h
  ·rename_i a8 H' he;exact AN h af
  ·exact h
def AM{f:a_->ae->Option (aL×a_×ae)}{g:Nat->Nat->a_->ae->Option (aL×a_×ae)}(a:∀ad H x,f ad H=D x->∃k,∀N,k<=N->∀n,k<=n->g N n ad H=D x):
  ∀{M:Nat} {ad:a_} {H:ae} {x:aL×a_×ae},iter f M ad H=D x->∃k,∀N,k<=N->∀n,k<=n->iter (g N n) M ad H=D x
 |0,_,_,_,h=>by cases h
 |M+1,ad,H,x,h=>by
  simp only[iter]at h;split at h
  ·rename_i a8 H' he;obtain⟨k,c⟩:=a _ _ _ he;obtain⟨j,i⟩:=AM a h;refine⟨max k j,λN d n e=> ?_⟩;simp only[iter,c N af n af];exact i N af n af
  ·rename_i l;obtain⟨k,c⟩:=a _ _ _ h;refine⟨k,λN d n e=> ?_⟩;simp only[iter,c N d n e];split
   ·rename_i a8 H' he;cases he;exact absurd h (l _ _)
   ·rfl
def GO{M:Nat}:∀(c:Code) {ad:a_} {H:ae} {x:aL×a_×ae},cy (e3 P (aC P az)) M c ad H=D x->∃k,∀N,k<=N->∀n,k<=n->cy (e3 P (b6 P az N n)) N c ad H=D x:=by
 intro c
 induction c with
 |skip=>intro ad H x h;exact⟨0,λ_ _ _ _=>h⟩
 |region id ops d=>
  intro ad H x h;simp only[cy]at h;split at h
  ·rename_i w H1 o;obtain⟨k,e⟩:=I_ o;refine⟨k,λN i n m=> ?_⟩;simp only[cy,e N i n m];exact h
  ·cases h
 |seq a b q s=>
  intro ad H x h;simp only[cy]at h;split at h
  ·rename_i w H1 o;obtain⟨k,e⟩:=q o;obtain⟨j,z⟩:=s h;refine⟨max k j,λN i n m=> ?_⟩;simp only[cy,e N af n af,z N af n af]
  ·rename_i v;obtain⟨k,e⟩:=q h;refine⟨k,λN i n m=> ?_⟩;simp only[cy,e N i n m];split
   ·rename_i a8 H' he;cases he;exact absurd h (v _ _)
   ·rfl
 |cond c a b q s=>
  intro ad H x h;simp only[cy]at h;split at h
  ·rename_i u;obtain⟨k,e⟩:=q h;refine⟨k,λN i n m=> ?_⟩;simp only[cy,u,e N i n m]
  ·rename_i u;obtain⟨k,e⟩:=s h;refine⟨k,λN i n m=> ?_⟩;simp only[cy,u,e N i n m]
  ·cases h
 |block id b p=>
  intro ad H x h;simp only[cy]at h;split at h
  ·rename_i B w H1 o;obtain⟨k,e⟩:=p o;refine⟨k,λN i n m=> ?_⟩;simp only[cy,e N i n m];exact h
  ·rename_i v;obtain⟨k,e⟩:=p h;refine⟨k,λN i n m=> ?_⟩;simp only[cy,e N i n m];split
   ·rename_i B a8 H' he;cases he;exact absurd h (v _ _ _)
   ·rfl
 |loop b p=>
  intro ad H x h;simp only[cy]at h;obtain⟨k,e⟩:=AM (g:=λN n=>cy (e3 P (b6 P az N n)) N b) (λad H x A=>p A) h;refine⟨max k M,λN i n m=> ?_⟩;simp only[cy];exact AN (e N af n af) af
 |exit id=>intro ad H x h;exact⟨0,λ_ _ _ _=>h⟩
 |ret=>intro ad H x h;exact⟨0,λ_ _ _ _=>h⟩
 |label l=>intro ad H x h;exact⟨0,λ_ _ _ _=>h⟩
 |goto l=>intro ad H x h;cases h
 |scope b p=>intro ad H x h;cases h
 |rangeFunc f E a b q s=>intro ad H x h;cases h
 |refuse y=>intro ad H x h;cases h
def ym{f:Nat}{args:List aa}{H H':ae}{fn:Func}{c:Code}{M:Nat}{ex:aL}{ad:a_}{d:List aa}(e:az f args H=Z)(j:P.funcs[f]? =D fn)(i:fn.body=D c)
  (h:cy (e3 P (aC P az)) M c (a_.enter fn.ntmps args) H=D (ex,ad,H')) (hex:∀id,ex≠ .exit id) (a:gR P ad H' fn.results.toList=D d):aC P az f args H=D (lv d,H'):=by
 obtain⟨k,l⟩:=GO c h;refine Bi ⟨k+1,λN m n o=> ?_⟩;cases n with
 |zero=>omega
 |succ n=>
  simp only[b6,e,j,i,l N af n af];cases ex with
  |exit id=>exact absurd rfl (hex id)
  |normal=>simp only[a]
  |ret=>simp only[a]
def lC{f:Nat}{args:List aa}{H:ae}{r:aa×ae}(h:az f args H=D r):aC P az f args H=D r:=by
 refine Bi ⟨1,λN a n c=> ?_⟩;cases n with
 |zero=>omega
 |succ n=>simp only[b6,h]
end
abbrev O:=Option (aa×ae)
abbrev cv:=Nat->aa
def ec(ad:cv)(dst:Option Nat)(v:aa):cv:=match dst with
 |none=>ad
 |some d=>λe=>bif Nat.beq e d then v else ad e
def db(ad:cv):Operand->Option aa
 | .tmp t=>D (ad t)
 | .const v=>qm v
 | .global _=>Z
 | .func f=>D (.func (.func f) [] [])
def kM(ad:cv):List Operand->Option (List aa)
 |[]=>D []
 |x::xs=>(db ad x).bind λv=>(kM ad xs).bind λa=>D (v::a)
def pV(ad:cv):List (Nat×Operand)->Option (List (Nat×aa))
 |[]=>D []
 |(i,x)::xs=>(db ad x).bind λv=>(pV ad xs).bind λa=>D ((i,v)::a)
def pW(ad:cv):Option Operand->Option (Option aa)
 |none=>D Z
 |some x=>(db ad x).bind λv=>D (D v)
def cB(c:aa)(a b:Option aa):Option aa:=match c with
 | .bool t=>bif t then a else b
 |_=>Z
def rr(P:Program)(t:TypeId)(c:Bool)(a b:aa):Bool:=
 match a,b with
 | .nilIface,.nilIface=>c
 | .agg _,.agg _=> !P.eqGuardType P.depth t
 |_,_=>X
def aq(P:Program)(op:BinOp)(t:TypeId)(c:Bool)(x y:aa):Option aa:=
 match x,y with
 | .int k a,.int d b=>
  (match op with
  | .shl=>oc .shl k a b
  | .shr=>oc .shr k a b
  |op=>if k=d then hj op k a b else Z)
 | .str a,.str b=>qW op a b
 |x,y=>
  (match op with
  | .eql=>if rr P t c x y then(jt P 10000 t x y).map .bool else Z
  | .neq=>if rr P t c x y then(jt P 10000 t x y).map λb=> .bool (!b)else Z
  |_=>Z)
def GN(P:Program)(t:TypeId)(x y:Operand)(u v:aa):rr P t (isConst x||isConst y) u v=mA P t x y u v:=by
 unfold rr mA;cases u<;>cases v<;>rfl
def GV(P:Program)(op:BinOp)(t:TypeId)(x y:Operand)(u v:aa):aq P op t (isConst x||isConst y) u v=pC P op t x y u v:=by
 unfold aq pC;simp only[GN];cases u<;>cases v<;>cases op<;>rfl
def rz(P:Program)(ai:Op)(ad:cv):Option aa:=
 match ai with
 | .move x=>db ad x
 | .assign x=>db ad x
 | .pick c a b=>(db ad c).bind λu=>cB u (db ad a) (db ad b)
 | .build t n=>(pV ad n.toList).bind (cj P t)
 | .nilCheck x=>(db ad x).bind bW
 | .binOp op t x y _=>(db ad x).bind λu=>(db ad y).bind λv=>aq P op t (isConst x||isConst y) u v
 | .unOp op _ x=>(db ad x).bind (e2 op)
 | .convert s d x=>(db ad x).bind (lu P s d)
 | .makeInterface t x=>(db ad x).bind (tw P t)
 | .makeFunc fn f c=>(kM ad f.toList).bind λe=>(kM ad c.toList).bind λcs=>D (.func fn e cs)
 | .slice t x lo j k=>(db ad x).bind λv=>(pW ad lo).bind λl=>(pW ad j).bind λh=>(pW ad k).bind λm=>ju P t v l h m
 | .fieldAddr t x f=>(db ad x).bind λv=>aK P t v f
 | .field t x f=>(db ad x).bind λv=>cA P t v f
 | .indexAddr t x i=>(db ad x).bind λu=>(db ad i).bind λv=>cc P t u v
 | .index t x i=>(db ad x).bind λu=>(db ad i).bind λv=>eD P t u v
 | .extract x i=>(db ad x).bind λv=>eg v i
 | .typeAssert x _ t ok=>(db ad x).bind (tp P t ok)
 | .call c=>match c.callee with
  | .builtin b=>(kM ad c.args.toList).bind (b2 P .empty b c.argTypes.toList)
  |_=>Z
 |_=>Z
def ob(P:Program)(ai:Op)(ad:cv)(H:ae):Option aa:=
 match ai with
 | .load t x=>(db ad x).bind (an P H t)
 | .lookup t x k ok=>(db ad x).bind λu=>(db ad k).bind λv=>rh P H t u v ok
 | .convert s d x=>(db ad x).bind (ml P H s d)
 | .call c=>match c.callee with
  | .builtin b=>(kM ad c.args.toList).bind (b2 P H b c.argTypes.toList)
  |_=>Z
 |_=>Z
def dS(l:Nat)(v:aa):Option (aa×bO):=bif v.cells.all aa.one then D (.ptr l 0 0,.row U v.cells.length [v.cells])else Z
def n5(ot:Option TypeId)(l:Nat)(v:aa):Option (aa×bO):=bif v.cells.all aa.one then D (.ptr l 0 0,dw ot v.cells.length [v.cells])else Z
def bV(P:Program)(l:Nat)(t:TypeId)(len:Nat)(parts:List (Nat×aa)):Option (aa×bO):=
 match P.underlying t with
 |some (.slice e)=>
  (match cn P e,eE P e with
  |some a,D z=>
   bif decide (len*a<=16777216/\z.cells.length=a/\z.cells.all aa.one=X)then
    (ir a (List.replicate len z.cells) parts).bind λels=>D (.aA l 0 len a (D len),.row U a els)
   else Z
  |_,_=>Z)
 |_=>Z
def uh(P:Program)(ai:Op)(ad:cv)(l:Nat):Option (aa×bO):=
 match ai with
 | .alloc t=>(eE P t).bind (n5 (ow P t) l)
 | .box t x=>(db ad x).bind (n5 (ow P t) l)
 | .buildSlice t n a=>(pV ad a.toList).bind (bV P l t n)
 | .makeMap _ Z=>D (.map l,.map [])
 | .makeSlice t x c=>(db ad x).bind λu=>(db ad c).bind λv=>mN (ri P ⟨.leaf,l⟩ t u v) l
 |_=>Z
def uo(P:Program)(ai:Op)(ad:cv)(H:ae):Option (aa×ae):=
 match ai with
 | .store t x y=>(db ad x).bind λu=>(db ad y).bind λv=>(aV P H t u v).bind λH'=>D (.tuple [],H')
 | .mapUpdate t m k x=>(db ad m).bind λu=>(db ad k).bind λv=>(db ad x).bind λz=>(nZ P H t u v z).bind λH'=>D (.tuple [],H')
 | .insert t m k x=>(db ad m).bind λu=>(db ad k).bind λv=>(db ad x).bind λz=>(nZ P H t u v z).bind λH'=>D (.tuple [],H')
 | .call c=>match c.callee,c.args.toList with
  | .builtin .append,[s,x]=>(db ad s).bind λu=>(db ad x).bind λv=>cQ P H c.argTypes.toList u v
  | .builtin .clear,[x]=>(db ad x).bind λu=>(rf P H c.argTypes.toList u).bind λH'=>D (.tuple [],H')
  |_,_=>Z
 |_=>Z
def x2(f:aa)(a:List aa):Option (Nat×List aa):=match f with
 | .func (.func g) first captured=>D (g,first++a++captured)
 |_=>Z
def BN(P:Program)(H:ae)(r:aa)(name:String)(a:List aa):Option (Nat×List aa):=(n1 P H r name).bind λp=>D (p.1,p.2::a)
def ua(P:Program)(H:ae)(ad:cv)(c:Call):Option (Nat×List aa):=
 match c.callee with
 | .value f=>(db ad f).bind λu=>(kM ad c.args.toList).bind λa=>x2 u a
 | .invoke r name=>(db ad r).bind λu=>(kM ad c.args.toList).bind λa=>BN P H u name a
 |_=>Z
def gg(a b:Option aa)(k:K->O):O:=match a with
 |some v=>k (.pure v)
 |none=>b.bind λv=>k (.read v)
def s7(r:Option (aa×bO))(k:K->O):O:=match r with
 |some (v,b)=>k (.new v b)
 |none=>Z
def eJ(H:ae)(r:O)(k:K->O):O:=match r with
 |some (v,H')=>bif decide (H.next<=H'.next)then k (.dL v H')else Z
 |none=>Z
def rv(P:Program)(call:ay)(ai:Op)(ad:cv)(H:ae)(k:K->O):O:=
 match cls ai with
 | .pure=>(rz P ai ad).bind λv=>k (.pure v)
 | .read=>(ob P ai ad H).bind λv=>k (.read v)
 | .both=>gg (rz P ai ad) (ob P ai ad H) k
 | .new=>s7 (uh P ai ad H.next) k
 | .write=>eJ H (uo P ai ad H) k
 | .call=>match ai with
  | .call c=>(ua P H ad c).bind λp=>eJ H (call p.1 p.2 H) k
  |_=>Z
def pn(b:aa)(want:Bool)(m:(K->O)->O)(k:K->O):O:=match b with
 | .bool t=>bif t==want then m k else k .skip
 |_=>k .skip
def ry(P:Program)(call:ay)(ops:Array Oper)(ai:Oper)(ad:cv)(H:ae)(k:K->O):O:=
 match ai.guard with
 |none=>rv P call ai.op ad H k
 |some (j,want)=>match ops[j]? with
  |some q=>(match q.dst with
   |some d=>pn (ad d) want (rv P call ai.op ad H) k
   |none=>k .skip)
  |none=>k .skip
def sP(P:Program)(call:ay)(ops:Array Oper):List Oper->cv->ae->(cv->ae->O)->O
 |[],ad,H,k=>k ad H
 |ai::os,ad,H,k=>ry P call ops ai ad H λx=>sP P call ops os (ec ad ai.dst x.val) (x.heap H) k
structure iQ where
 i:Nat
 k:K
 rd:ae->Option aa
def n7(ms:List Nat):List iQ->List Nat->Bool
 |[],_=>X
 |t::ts,ids=>match t.k with
  | .dL _ _=>ids.all (λj=>c8 ms j t.i)&&n7 ms ts (t.i::ids)
  | .new _ _=>n7 ms ts (t.i::ids)
  |_=>n7 ms ts ids
def bj(r:Option aa)(v:aa):Bool:=match r with
 |some u=>aa.beq u v
 |none=>U
def ph(ms:List Nat)(rd:ae->Bool)(i:Nat):List iQ->ae->Bool
 |[],H=>rd H
 |t::ts,H=>bif t.k.eV then(c8 ms t.i i||rd H)&&(c8 ms i t.i||ph ms rd i ts (t.k.heap H))else ph ms rd i ts H
def n6(ms:List Nat)(i:Nat):List iQ->Bool->Bool
 |[],_=>U
 |t::ts,s=>match t.k with
  | .new _ _=>(s&&c8 ms t.i i&&ts.all λu=>lK u.k)||n6 ms i ts (s|| !c8 ms t.i i)
  | .dL _ _=>n6 ms i ts (s|| !c8 ms t.i i)
  |_=>n6 ms i ts s
def mM(ms:List Nat)(rd:ae->Bool)(i:Nat):List iQ->ae->Bool->Bool
 |[],_,_=>U
 |t::ts,H,s=>match t.k with
  | .new _ b=>bif s&&c8 ms t.i i&&ts.all (λu=>lK u.k)then rd (H.push b).only||mM ms rd i ts (H.push b) (s|| !c8 ms t.i i)else mM ms rd i ts (H.push b) (s|| !c8 ms t.i i)
  | .dL _ H'=>mM ms rd i ts H' (s|| !c8 ms t.i i)
  |_=>mM ms rd i ts H s
def vN(ms:List Nat)(rd:ae->Bool)(i:Nat)(T:List iQ)(H:ae):Bool:=bif n6 ms i T U then ph ms rd i T H||mM ms rd i T H U else ph ms rd i T H
def s4(ms:List Nat)(a:List Nat)(T:List iQ)(H:ae):List iQ->Bool
 |[]=>X
 |t::ts=>(match t.k with
  | .read v=>a.contains t.i||vN ms (λH=>bj (t.rd H) v) t.i T H
  |_=>X)&&s4 ms a T H ts
def pP(ms:List Nat)(a:List Nat)(T:List iQ)(H:ae):Bool:=n7 ms T []&&s4 ms a T H T
def pL(P:Program)(call:ay)(ops:Array Oper):List Nat->cv->ae->(List iQ->cv->ae->O)->O
 |[],ad,H,k=>k [] ad H
 |i::is,ad,H,k=>match ops[i]? with
  |none=>Z
  |some ai=>ry P call ops ai ad H λx=>pL P call ops is (ec ad ai.dst x.val) (x.heap H) λT a8 H'=>k (⟨i,x,ob P ai.op ad⟩::T) a8 H'
def wa(ops:Array Oper):List Nat:=(order ops).filter (tied ops (dv ops) (order ops))
def quiet(ops:Array Oper):Bool:=ops.toList.all λai=> !mF ai.op
def vy(P:Program)(call:ay)(ops:Array Oper)(draw:Bool)(ad:cv)(H:ae)(k:cv->ae->O):O:=
 match draw with
 |false=>sP P call ops ops.toList ad H k
 |true=>bif quiet ops then pL P call ops (order ops) ad H λ_ a8 H'=>k a8 H' else
  pL P call ops (order ops) ad H λT a8 H'=>bif pP (dv ops) (wa ops) T H then k a8 H' else Z
def aW(c:Option aa)(a b:O):O:=match c with
 |some (.bool t)=>bif t then a else b
 |_=>Z
abbrev dT:=cv->ae->O
def look(i:Nat):List (Nat×dT)->dT
 |[],_,_=>Z
 |(j,k)::ks,ad,H=>bif Nat.beq i j then k ad H else look i ks ad H
def mG(b:dT->dT):Nat->dT
 |0,_,_=>Z
 |n+1,ad,H=>b (λad H=>mG b n ad H) ad H
def bo(P:Program)(call:ay)(N:Nat):Code->dT->List (Nat×dT)->dT->dT
 | .skip,e,_,_,ad,H=>e ad H
 | .region _ ops d,e,_,_,ad,H=>vy P call ops d ad H e
 | .seq a b,e,ks,h,ad,H=>bo P call N a (λad H=>bo P call N b e ks h ad H) ks h ad H
 | .cond c a b,e,ks,h,ad,H=>aW (db ad c) (bo P call N a e ks h ad H) (bo P call N b e ks h ad H)
 | .block id b,e,ks,h,ad,H=>bo P call N b e ((id,e)::ks) h ad H
 | .loop b,_,ks,h,ad,H=>mG (λe ad H=>bo P call N b e ks h ad H) N ad H
 | .exit id,_,ks,_,ad,H=>look id ks ad H
 | .ret,_,_,h,ad,H=>h ad H
 | .label _,e,_,_,ad,H=>e ad H
 |_,_,_,_,_,_=>Z
def oH(P:Program)(H:ae)(ad:cv):List ResultVar->(List aa->O)->O
 |[],k=>k []
 | .tmp t::rs,k=>oH P H ad rs λc=>k (ad t::c)
 | .cell a t::rs,k=>(an P H t (ad a)).bind λv=>oH P H ad rs λc=>k (v::c)
def kT(P:Program)(rs:List ResultVar):dT:=λad H=>oH P H ad rs λa=>D (lv a,H)
def kI:List aa->cv
 |[],_=> .tuple []
 |v::_,0=>v
 |_::a,n+1=>kI a n
section
variable {P:Program}{az:ay}{call:ay}{ad a8:a_}{H:ae}
def j6(x:Operand):db ad.get x=b4 ad x:=by cases x<;>rfl
def pX:∀xs:List Operand,kM ad.get xs=gC ad xs
 |[]=>rfl
 |x::xs=>by
  simp only[kM,gC,j6,pX xs];cases b4 ad x<;>cases gC ad xs<;>rfl
def uj:∀xs:List (Nat×Operand),pV ad.get xs=im ad xs
 |[]=>rfl
 |(i,x)::xs=>by
  simp only[pV,im,j6,uj xs];cases b4 ad x<;>cases im ad xs<;>rfl
def Hj(x:Option Operand):pW ad.get x=jv ad x:=by
 cases x with
 |none=>rfl
 |some x=>simp only[pW,jv,j6];cases b4 ad x<;>rfl
def Av(ai:Op):rz P ai ad.get=iq P ai ad:=by
 cases ai<;>simp only[rz,iq,j6,pX,uj,Hj,GV]
 ·rename_i c a b;cases d:b4 ad c with
  |none=>rfl
  |some v=>cases v<;>first|rfl|(rename_i t;cases t<;>rfl)
 ·rename_i c;cases c.callee<;>rfl
def uk(ai:Op):ob P ai ad.get H=gB P ai ad H:=by
 cases ai<;>simp only[ob,gB,j6,pX]
 ·rename_i c;cases c.callee<;>rfl
def u_(v:aa)(l:Nat)(b:bO)(a:b.jC=X):mN (D (v,ae.push ⟨.leaf,l⟩ b)) l=D (v,b):=by
 unfold mN;simp only[ae.bT,if_true];have:(ae.push ⟨.leaf,l⟩ b).get l=D b:=ae.bC ⟨.leaf,l⟩ b;rw[this];simp[a]
def Io(ot:Option TypeId)(esz:Nat)(els:List (List aa)):(dw ot esz els).jC=true:=by cases ot<;>rfl
def xW(ot:Option TypeId)(l:Nat)(v:aa):n5 ot l v=mN (nV ot ⟨.leaf,l⟩ v) l:=by
 unfold n5 nV;by_cases h:v.cells.all aa.one=X
 ·rw[h,if_pos rfl];exact(u_ _ _ _ (Io _ _ _)).symm
 ·rw[if_neg h];simp only[Bool.not_eq_true]at h;rw[h];rfl
def Mh(l:Nat)(t:TypeId)(n:Nat)(a:List (Nat×aa)):bV P l t n a=mN (pD P ⟨.leaf,l⟩ t n a) l:=by
 unfold bV pD;cases hu:P.underlying t with
 |none=>rfl
 |some d=>
  cases d<;>try rfl
  rename_i e;simp only
  cases aB:cn P e with
  |none=>rfl
  |some c=>
  cases i:eE P e with
  |none=>rfl
  |some z=>
   simp only
   by_cases h:n*c<=16777216/\z.cells.length=c/\z.cells.all aa.one=X
   ·rw[if_pos h,decide_eq_true h];simp only[aY];cases ir c (List.replicate n z.cells) a with
    |none=>rfl
    |some els=>exact(u_ _ _ _ rfl).symm
   ·rw[if_neg h,decide_eq_false h];rfl
def He(ai:Op)(l:Nat):uh P ai ad.get l=iS P ai ad l:=by
 unfold iS;cases ai<;>simp only[uh,mq,j6,uj]<;>try rfl
 ·rename_i t;unfold re;cases eE P t with
  |none=>rfl
  |some v=>exact xW _ l v
 ·rename_i t x;cases b4 ad x with
  |none=>rfl
  |some v=>exact xW _ l v
 ·rename_i t n a;cases im ad a.toList with
  |none=>rfl
  |some v=>exact Mh l t n v
 ·rename_i t r;cases r with
  |none=>exact(u_ _ _ _ rfl).symm
  |some r=>rfl
 ·rename_i t x c;cases b4 ad x with
  |none=>rfl
  |some u=>cases b4 ad c<;>rfl
def map_bind{α β:Type}(x:Option α)(f:α->β):x.bind (λa=>D (f a))=x.map f:=by cases x<;>rfl
def Hk(ai:Op):uo P ai ad.get H=j2 P ai ad H:=by
 cases ai<;>simp only[uo,j2,j6,map_bind]
 ·rename_i c;cases d:c.callee with
  |builtin b=>
   cases a:c.args.toList with
   |nil=>cases b<;>rfl
   |cons s r=>
    cases r with
    |nil=>cases b<;>rfl
    |cons x r=>cases r<;>cases b<;>rfl
  |value f=>rfl
  |invoke r m=>rfl
def GX(c:Call):ua P H ad.get c=kH P H ad c:=by
 unfold ua kH;cases h:c.callee with
 |value f=>
  simp only[j6,pX];cases b4 ad f with
  |none=>rfl
  |some v=>
   cases d:gC ad c.args.toList with
   |none=>
    simp only[Option.bind_some,Option.bind_none];split<;>first|rfl|(simp_all;done)
   |some e=>
    simp only[Option.bind_some];unfold x2;split
    ·rename_i g first captured;rfl
    ·rename_i a;split
     ·rename_i g first captured he
      simp only[aU]at he;exact absurd he (a _ _ _)
     ·rfl
 |invoke r m=>
  simp only[j6,pX];cases b4 ad r with
  |none=>rfl
  |some v=>
   simp only[Option.bind_some];cases d:gC ad c.args.toList with
   |none=>cases n1 P H v m<;>rfl
   |some e=>
    simp only[Option.bind_some,BN];cases n1 P H v m<;>rfl
 |builtin b=>rfl
def zr(ai:Op)(k:K->O):rv P call ai ad.get H k=(step1 P call ai ad H).bind k:=by
 unfold rv step1;cases e:cls ai with
 |pure=>simp only[Av];cases iq P ai ad<;>rfl
 |read=>simp only[uk];cases gB P ai ad H<;>rfl
 |both=>
  simp only[Av,uk];unfold gg;cases iq P ai ad with
  |some v=>rfl
  |none=>cases gB P ai ad H<;>rfl
 |new=>
  simp only[He];unfold s7;cases iS P ai ad H.next<;>rfl
 |write=>
  simp only[Hk];unfold eJ;cases h:j2 P ai ad H with
  |none=>rfl
  |some r=>
   obtain⟨v,H'⟩:=r;simp only[oe];by_cases a:H.next<=H'.next
   ·rw[if_pos a,decide_eq_true a];rfl
   ·rw[if_neg a,decide_eq_false a];rfl
 |call=>
  cases ai<;>try rfl
  rename_i c;simp only[GX];cases kH P H ad c with
  |none=>rfl
  |some p=>
   obtain⟨g,d⟩:=p;simp only[Option.bind_some];unfold eJ;cases h:call g d H with
   |none=>rfl
   |some r=>
    obtain⟨v,H'⟩:=r;simp only[oe];by_cases a:H.next<=H'.next
    ·rw[if_pos a,decide_eq_true a];rfl
    ·rw[if_neg a,decide_eq_false a];rfl
def zs(ops:Array Oper)(ai:Oper)(k:K->O):ry P call ops ai ad.get H k=(gU P call ops ai ad H).bind k:=by
 unfold ry gU j1;cases c:ai.guard with
 |none=>exact zr ai.op k
 |some p=>
  obtain⟨j,want⟩:=p;simp only
  cases h:ops[j]? with
  |none=>rfl
  |some q=>
   simp only
   cases a:q.dst with
   |none=>rfl
   |some d=>
    simp only
    cases i:ad.get d<;>try rfl
    rename_i t;simp only[pn];cases e:(t==want)with
    |true=>simp only[aY];exact zr ai.op k
    |false=>rfl
def EE{dst:Option Nat}{v:aa}(h:ad.put dst v=D a8):ec ad.get dst v=a8.get:=by
 funext e
 rw[a_.p1 h];cases dst with
 |none=>simp[ec]
 |some d=>
  simp only[ec];by_cases he:e=d
  ·subst he;simp[Nat.beq_refl]
  ·have a:Nat.beq e d=false:=by rw[<-Bool.not_eq_true,Nat.beq_eq];exact he
   rw[a];simp[Ne.symm he]
def mz(n:Nat)(ai:Oper):Bool:=match ai.dst with
 |none=>X
 |some d=>decide (d<n)
def Cq{ai:Oper}(h:mz ad.size ai=X)(v:aa):∃a8,ad.put ai.dst v=D a8/\a8.size=ad.size:=by
 unfold mz at h;cases a:ai.dst with
 |none=>exact⟨ad,rfl,rfl⟩
 |some d=>
  rw[a]at h;exact⟨{ad with t:=bn.put v (d+1) ad.t d},by simp only[a_.put];rw[if_pos (of_decide_eq_true h)],rfl⟩
def Db(ops:Array Oper)(k:cv->ae->O):∀(os:List Oper) (ad:a_) (H:ae),os.all (mz ad.size)=X->
  sP P call ops os ad.get H k=(ha P call ops os ad H).bind λp=>k p.1.get p.2
 |[],ad,H,_=>rfl
 |ai::os,ad,H,h=>by
  simp only[List.all_cons,Bool.and_eq_true]at h;simp only[sP,ha,zs];cases d:gU P call ops ai ad H with
  |none=>rfl
  |some x=>
   obtain⟨a8,a,c⟩:=Cq h.1 x.val;simp only[Option.bind_some,a,EE a];exact Db ops k os a8 _ (by rw[c];exact h.2)
def bF.c(P:Program)(t:bF):iQ:=⟨t.i,t.k,ob P t.ai.op t.ad.get⟩
def ye(ms:List Nat):∀(T:List bF) (ids:List Nat),n7 ms (T.map (bF.c P)) ids=iw ms T ids
 |[],_=>rfl
 |t::T,ids=>by
  simp only[List.map_cons,n7,iw,bF.c];cases t.k<;>simp only[ye ms T]
def wz(ms:List Nat)(rd:ae->Bool)(i:Nat):∀(T:List bF) (H:ae),ph ms rd i (T.map (bF.c P)) H=jm ms rd i T H
 |[],_=>rfl
 |t::T,H=>by
  simp only[List.map_cons,ph,jm,bF.c];cases t.k.eV
  ·simp only[aT];exact wz ms rd i T H
  ·simp only[aY,if_true];rw[wz ms rd i T]
def x4(ms:List Nat)(i:Nat):∀(T:List bF) (s:Bool),n6 ms i (T.map (bF.c P)) s=mw ms i T s
 |[],_=>rfl
 |t::T,s=>by
  simp only[List.map_cons,n6,mw,bF.c];cases t.k<;>simp only[x4 ms i T,List.all_map]<;>rfl
def BR(ms:List Nat)(rd:ae->Bool)(i:Nat):∀(T:List bF) (H:ae) (s:Bool),mM ms rd i (T.map (bF.c P)) H s=jF ms rd i T H s
 |[],_,_=>rfl
 |t::T,H,s=>by
  simp only[List.map_cons,mM,jF,bF.c];cases t.k<;>simp only[BR ms rd i T,List.all_map]<;>rfl
def L3(ms:List Nat)(rd:ae->Bool)(i:Nat)(T:List bF)(H:ae):vN ms rd i (T.map (bF.c P)) H=o6 ms rd i T H:=by
 simp only[vN,o6,x4,BR,wz]
def EO(ms:List Nat)(d:List Nat)(a:Nat->Bool)(T:List bF)(H:ae):∀(S:List bF),(∀t∈S,d.contains t.i=a t.i)->s4 ms d (T.map (bF.c P)) H (S.map (bF.c P))=kC P ms a T H S
 |[],_=>rfl
 |t::S,h=>by
  simp only[List.map_cons,s4,kC,EO ms d a T H S λt e=>h t (by simp[e])]
  congr 1
  simp only[bF.c,h t (by simp)];cases t.k<;>try rfl
  simp only[L3]
  congr 2
  funext H
  simp only[bj,mT,uk];cases gB P t.ai.op t.ad H<;>rfl
def Ct(ms:List Nat):∀(T:List bF) (ids:List Nat),(∀t∈T,t.k.eV=U)->iw ms T ids=X
 |[],_,_=>rfl
 |t::T,ids,h=>by
  have a:=h t (by simp);simp only[iw];have d:=Ct ms T ids λu hu=>h u (by simp[hu])
  cases c:t.k<;>rw[c]at a<;>first|exact d|(cases a;done)
def Cu(ms:List Nat)(a:Nat->Bool)(T:List bF)(H:ae):∀(S:List bF),(∀t∈S,a t.i=X)->kC P ms a T H S=X
 |[],_=>rfl
 |t::S,h=>by
  simp only[kC,h t (by simp),Cu ms a T H S λt c=>h t (by simp[c]),Bool.true_or,Bool.and_true];cases t.k<;>rfl
def tN(ops:Array Oper):∀(is:List Nat) (ad:a_) (H:ae) (k:List iQ->cv->ae->O),ops.toList.all (mz ad.size)=X->
  pL P call ops is ad.get H k=(canRun P call ops is ad H).bind λp=>k (p.1.map (bF.c P)) p.2.1.get p.2.2
 |[],ad,H,k,_=>rfl
 |i::is,ad,H,k,h=>by
  simp only[pL,canRun];cases e:ops[i]? with
  |none=>rfl
  |some ai=>
   simp only[zs];cases l:gU P call ops ai ad H with
   |none=>rfl
   |some x=>
    have hm:mz ad.size ai=true:=by
     rw[List.all_eq_true]at h;exact h ai (by have:=Array.mem_of_getElem? e;simpa using this)
    obtain⟨a8,a,d⟩:=Cq hm x.val;simp only[Option.bind_some,a,EE a];rw[tN ops is a8 _ _ (by rw[d];exact h)];cases canRun P call ops is a8 (x.heap H)with
    |none=>rfl
    |some p=>obtain⟨T,j,H1⟩:=p;rfl
def I9(ops:Array Oper)(d:Bool)(k:cv->ae->O)(h:ops.toList.all (mz ad.size)=X):vy P call ops d ad.get H k=(e3 P call ops d ad H).bind λp=>k p.1.get p.2:=by
 unfold vy e3;cases d with
 |false=>exact Db ops k _ ad H h
 |true=>
  simp only
  rw[tN ops _ ad H _ h,tN ops _ ad H _ h];cases l:canRun P call ops (order ops) ad H with
  |none=>cases quiet ops<;>rfl
  |some p=>
   obtain⟨T,y,H1⟩:=p;have s:=(j4 l).1;have v:∀t∈T,t.i∈order ops:=λt a=>by rw[<-s];exact List.mem_map.2 ⟨t,a,rfl⟩
   have x:∀t∈T,(wa ops).contains t.i=tied ops (dv ops) (order ops) t.i:=λt a=>by
    unfold wa;rw[Bool.eq_iff_iff,List.contains_iff_mem,List.mem_filter];exact⟨λh=>h.2,λh=>⟨v t a,h⟩⟩
   simp only[Option.bind_some];cases c:quiet ops with
   |true=>
    have m:∀ai∈ops.toList,mF ai.op=false:=λai w=>by
     unfold quiet at c;rw[List.all_eq_true]at c;simpa using c ai w
    have aE:∀t∈T,t.k.eV=false:=λt a=>by
     obtain⟨A,B,n⟩:=List.append_of_mem a;have e:=tO (P:=P) (call:=call) (by rw[<-n];exact l);cases q:t.k.eV with
     |false=>rfl
     |true=>
      have:=AT e.2.2.1 q;rw[m t.ai (by have:=Array.mem_of_getElem? e.1;simpa using this)]at this;cases this
    have o:∀t∈T,tied ops (dv ops) (order ops) t.i=true:=λt _=>by
     unfold tied;rw[List.all_eq_true];intro j _;cases u:ops[j]? with
     |none=>simp
     |some ai=>simp[m ai (by have:=Array.mem_of_getElem? u;simpa using this)]
    simp only[aY,Ct (dv ops) T [] aE,Cu (dv ops) _ T H T o];rfl
   |false=>
    simp only[aT,pP,ye,EO _ _ _ T H T x];cases iw (dv ops) T []with
    |false=>rfl
    |true=>
     cases kC P (dv ops) (tied ops (dv ops) (order ops)) T H T<;>rfl
def iv(n:Nat):Code->Bool
 | .region _ ops _=>ops.toList.all (mz n)
 | .seq a b=>iv n a&&iv n b
 | .cond _ a b=>iv n a&&iv n b
 | .block _ b=>iv n b
 | .loop b=>iv n b
 |_=>X
def n8(r:Option (aL×a_×ae))(a:dT)(ks:List (Nat×dT))(c:dT):O:=match r with
 |some (.normal,ad,H)=>a ad.get H
 |some (.exit id,ad,H)=>look id ks ad.get H
 |some (.ret,ad,H)=>c ad.get H
 |none=>Z
def Dn{ops:Array Oper}:∀{os:List Oper} {ad a8:a_} {H H':ae},ha P call ops os ad H=D (a8,H')->a8.size=ad.size
 |[],ad,a8,H,H',h=>by
  simp only[ha,aU,bY]at h;rw[h.1]
 |ai::os,ad,a8,H,H',h=>by
  simp only[ha]at h;split at h
  ·cases h
  ·split at h
   ·cases h
   ·rename_i c a;rw[Dn h,a_.o8 a]
def Dk{ops:Array Oper}:∀{is:List Nat} {ad a8:a_} {H H':ae} {T:List bF},canRun P call ops is ad H=D (T,a8,H')->a8.size=ad.size
 |[],ad,a8,H,H',T,h=>by
  simp only[canRun,aU,bY]at h;rw[h.2.1]
 |i::is,ad,a8,H,H',T,h=>by
  simp only[canRun]at h;split at h
  ·cases h
  ·split at h
   ·cases h
   ·split at h
    ·cases h
    ·rename_i d a;split at h
     ·cases h
     ·rename_i c;simp only[aU,bY]at h;obtain⟨_,rfl,_⟩:=h;rw[Dk c,a_.o8 a]
def Ma{ops:Array Oper}{d:Bool}{ad a8:a_}{H H':ae}(h:e3 P call ops d ad H=D (a8,H')):a8.size=ad.size:=by
 unfold e3 at h;split at h
 ·exact Dn h
 ·split at h
  ·cases h
  ·rename_i a;split at h
   ·cases h
   ·split at h
    ·cases h
    ·simp only[aU,bY]at h;obtain⟨rfl,_⟩:=h;exact Dk a
def Dm{f:a_->ae->Option (aL×a_×ae)}(a:∀ad H ex a8 H',f ad H=D (ex,a8,H')->a8.size=ad.size):
  ∀{n:Nat} {ad:a_} {H:ae} {ex:aL} {a8:a_} {H':ae},iter f n ad H=D (ex,a8,H')->a8.size=ad.size
 |0,_,_,_,_,_,h=>by cases h
 |n+1,ad,H,ex,a8,H',h=>by
  simp only[iter]at h;split at h
  ·rename_i d H1 c;rw[Dm a h,a _ _ _ _ _ c]
  ·exact a _ _ _ _ _ h
def Dl{N:Nat}:∀(c:Code) {ad:a_} {H:ae} {ex:aL} {a8:a_} {H':ae},cy (e3 P call) N c ad H=D (ex,a8,H')->a8.size=ad.size:=by
 intro c
 induction c with
 |skip=>intro ad H ex a8 H' h;simp only[cy,aU,bY]at h;rw[h.2.1]
 |region id ops d=>
  intro ad H ex a8 H' h;simp only[cy]at h;split at h
  ·rename_i m H1 e;simp only[aU,bY]at h;obtain⟨_,rfl,_⟩:=h;exact Ma e
  ·cases h
 |seq a b j k=>
  intro ad H ex a8 H' h;simp only[cy]at h;split at h
  ·rename_i m H1 e;rw[k h,j e]
  ·exact j h
 |cond c a b j k=>
  intro ad H ex a8 H' h;simp only[cy]at h;split at h
  ·exact j h
  ·exact k h
  ·cases h
 |block id b i=>
  intro ad H ex a8 H' h;simp only[cy]at h;split at h
  ·rename_i n m H1 e;split at h<;>(simp only[aU,bY]at h;obtain⟨_,rfl,_⟩:=h;exact i e)
  ·exact i h
 |loop b i=>
  intro ad H ex a8 H' h;simp only[cy]at h;exact Dm (λ_ _ _ _ _ h=>i h) h
 |exit id=>intro ad H ex a8 H' h;simp only[cy,aU,bY]at h;rw[h.2.1]
 |ret=>intro ad H ex a8 H' h;simp only[cy,aU,bY]at h;rw[h.2.1]
 |label l=>intro ad H ex a8 H' h;simp only[cy,aU,bY]at h;rw[h.2.1]
 |goto l=>intro ad H ex a8 H' h;cases h
 |scope b i=>intro ad H ex a8 H' h;cases h
 |rangeFunc f o a b j k=>intro ad H ex a8 H' h;cases h
 |refuse y=>intro ad H ex a8 H' h;cases h
def AL{f:a_->ae->Option (aL×a_×ae)}{b:dT->dT}{ks:List (Nat×dT)}{e:dT}(m:Nat)(aB:∀ad H ex a8 H',f ad H=D (ex,a8,H')->a8.size=ad.size)
  (d:∀(ad:a_) (H:ae) (a:dT),ad.size=m->b a ad.get H=n8 (f ad H) a ks e) (a:dT):∀(n:Nat) (ad:a_) (H:ae),ad.size=m->mG b n ad.get H=n8 (iter f n ad H) a ks e
 |0,ad,H,_=>rfl
 |n+1,ad,H,c=>by
  simp only[mG,iter];rw[d ad H _ c];cases h:f ad H with
  |none=>rfl
  |some x=>
   obtain⟨ex,i,H1⟩:=x;cases ex with
   |normal=>exact AL m aB d a n i H1 (by rw[aB _ _ _ _ _ h];exact c)
   |exit id=>rfl
   |ret=>rfl
def x9{N:Nat}:∀(c:Code) (ad:a_) (H:ae) (e:dT) (ks:List (Nat×dT)) (i:dT),iv ad.size c=X->bo P call N c e ks i ad.get H=n8 (cy (e3 P call) N c ad H) e ks i:=by
 intro c
 induction c with
 |skip=>intro ad H e ks i _;rfl
 |region id ops d=>
  intro ad H e ks i h;simp only[bo,cy];rw[I9 ops d e h];cases e3 P call ops d ad H<;>rfl
 |seq a b m n=>
  intro ad H e ks i h;simp only[iv,Bool.and_eq_true]at h;simp only[bo,cy];rw[m ad H _ ks i h.1];cases he:cy (e3 P call) N a ad H with
  |none=>rfl
  |some x=>
   obtain⟨ex,j,H1⟩:=x;cases ex with
   |normal=>exact n j H1 e ks i (by rw[Dl a he];exact h.2)
   |exit id=>rfl
   |ret=>rfl
 |cond c a b m n=>
  intro ad H e ks i h;simp only[iv,Bool.and_eq_true]at h;simp only[bo,cy,j6];unfold aW;cases b4 ad c with
  |none=>rfl
  |some v=>
   cases v<;>try rfl
   rename_i t;cases t
   ·exact n ad H e ks i h.2
   ·exact m ad H e ks i h.1
 |block id b k=>
  intro ad H e ks i h;simp only[bo,cy];rw[k ad H e _ i h];cases he:cy (e3 P call) N b ad H with
  |none=>rfl
  |some x=>
   obtain⟨ex,j,H1⟩:=x;cases ex with
   |normal=>rfl
   |ret=>rfl
   |exit o=>
    simp only[n8,look];by_cases hid:o=id
    ·subst hid;simp[Nat.beq_refl]
    ·have p:Nat.beq o id=false:=by rw[<-Bool.not_eq_true,Nat.beq_eq];exact hid
     rw[p,if_neg hid];rfl
 |loop b k=>
  intro ad H e ks i h;simp only[bo,cy];exact AL ad.size (λ_ _ _ _ _ h=>Dl b h) (λj H1 e q=>k j H1 e ks i (by rw[q];exact h)) e N ad H rfl
 |exit id=>intro ad H e ks i _;rfl
 |ret=>intro ad H e ks i _;rfl
 |label l=>intro ad H e ks i _;rfl
 |goto l=>intro ad H e ks i _;rfl
 |scope b k=>intro ad H e ks i _;rfl
 |rangeFunc f s a b m n=>intro ad H e ks i _;rfl
 |refuse y=>intro ad H e ks i _;rfl
def sb{ad:a_}{H:ae}:∀(rs:List ResultVar) (k:List aa->O),oH P H ad.get rs k=(gR P ad H rs).bind k
 |[],k=>rfl
 | .tmp t::rs,k=>by
  simp only[oH,gR,n3];rw[sb rs];cases gR P ad H rs<;>rfl
 | .cell a t::rs,k=>by
  simp only[oH,gR,n3];cases an P H t (ad.get a)with
  |none=>rfl
  |some v=>
   simp only[Option.bind_some];rw[sb rs];cases gR P ad H rs<;>rfl
def xh(n:Nat)(args:List aa):(a_.enter n args).get=kI args:=by
 have h:∀(args:List aa) (d:Nat),kI args d=(args[d]?).getD (.tuple []):=by
  intro args
  induction args with
  |nil=>intro d;cases d<;>rfl
  |cons v e c=>
   intro d;cases d with
   |zero=>rfl
   |succ d=>simpa [kI]using c d
 funext d
 rw[h];unfold a_.get a_.enter;simp only[va];by_cases a:d<args.length
 ·rw[if_pos af];simp[a]
 ·rw[if_neg af,bn.pZ];simp[a]
def GP{f:Nat}{args:List aa}{H:ae}{fn:Func}{c:Code}{M:Nat}{r:aa×ae}(i:az f args H=Z)(l:P.funcs[f]? =D fn)(k:fn.body=D c)(m:iv fn.ntmps c=X)(n:Nat.ble args.length fn.ntmps=X)
  (h:bo P (aC P az) M c (kT P fn.results.toList) [] (kT P fn.results.toList) (kI args) H=D r):aC P az f args H=D r:=by
 have aB:(a_.enter fn.ntmps args).size=fn.ntmps:=by have:=Nat.le_of_ble_eq_true n;simp only[a_.enter];omega
 rw[<-xh fn.ntmps,x9 c _ _ _ _ _ (by rw[aB];exact m)]at h;unfold n8 at h;have fin:∀(ad:a_) (H':ae),kT P fn.results.toList ad.get H'=D r->∃d,gR P ad H' fn.results.toList=D d/\r=(lv d,H'):=by
  intro ad H' a;unfold kT at a;rw[sb]at a;cases j:gR P ad H' fn.results.toList with
  |none=>rw[j]at a;cases a
  |some d=>rw[j]at a;exact⟨d,rfl,(Option.some.inj a).symm⟩
 split at h
 ·rename_i ad H' he;obtain⟨d,e,rfl⟩:=fin ad H' h;exact ym i l k he (λid=>by intro a;cases a) e
 ·cases h
 ·rename_i ad H' he;obtain⟨d,e,rfl⟩:=fin ad H' h;exact ym i l k he (λid=>by intro a;cases a) e
 ·cases h
end
end Go.b9
namespace Go
def a6:Code->Code
 | .seq a _=>a
 | .cond _ a _=>a
 | .block _ b=>b
 | .loop b=>b
 |c=>c
def ak:Code->Code
 | .seq _ b=>b
 | .cond _ _ b=>b
 |c=>c
def Code.test:Code->Operand
 | .cond c _ _=>c
 |_=> .tmp 0
def Code.num:Code->Nat
 | .block id _=>id
 | .exit id=>id
 |_=>0
def Code.HK:Code->Bool| .seq _ _=>X|_=>U
def Code.HG:Code->Bool| .cond _ _ _=>X|_=>U
def Code.HF:Code->Bool| .block _ _=>X|_=>U
def Code.HJ:Code->Bool| .loop _=>X|_=>U
end Go
namespace Go.b9
section
variable {P:Program}{call:ay}{N:Nat}{ik gx:dT}{gy:List (Nat×dT)}
def aP{c:Code}{k T:dT}(d:c.HK=X)(h:∀ad H,bo P call N (ak c) ik gy gx ad H=k ad H)(e:∀ad H,bo P call N (a6 c) k gy gx ad H=T ad H):
  ∀ad H,bo P call N c ik gy gx ad H=T ad H:=by
 cases c<;>first|cases d|skip
 rename_i a b;intro ad H;rw[<-e];show bo P call N a (λad H=>bo P call N b ik gy gx ad H) gy gx ad H=_;rw[show(λad H=>bo P call N b ik gy gx ad H)=k from funext λad=>funext λH=>h ad H];rfl
def dt{c:Code}{A B:dT}(e:c.HG=X)(a:∀ad H,bo P call N (a6 c) ik gy gx ad H=A ad H)(d:∀ad H,bo P call N (ak c) ik gy gx ad H=B ad H):
  ∀ad H,bo P call N c ik gy gx ad H=aW (db ad c.test) (A ad H) (B ad H):=by
 cases c<;>first|cases e|skip
 intro ad H;rw[<-a,<-d];rfl
def dc{c:Code}{T:dT}(d:c.HF=X)(a:∀ad H,bo P call N (a6 c) ik ((c.num,ik)::gy) gx ad H=T ad H):∀ad H,bo P call N c ik gy gx ad H=T ad H:=by
 cases c<;>first|cases d|skip
 intro ad H;rw[<-a];rfl
def ei{c:Code}{k:Nat->dT}(e:c.HJ=X)(d:∀ad H,k 0 ad H=Z)(aB:∀n ad H,bo P call N (a6 c) (k n) gy gx ad H=k (n+1) ad H):∀ad H,bo P call N c ik gy gx ad H=k N ad H:=by
 cases c<;>first|cases e|skip
 rename_i b;have key:∀n ad H,mG (λa ad H=>bo P call N b a gy gx ad H) n ad H=k n ad H:=by
  intro n
  induction n with
  |zero=>intro ad H;exact(d ad H).symm
  |succ n h=>
   intro ad H;rw[<-aB n ad H];show bo P call N b (λad H=>mG _ n ad H) gy gx ad H=_;rw[show(λad H=>mG (λa ad H=>bo P call N b a gy gx ad H) n ad H)=k n from funext λad=>funext λH=>h ad H];rfl
 intro ad H;exact key N ad H
def aH(c:Code):∀ad H,bo P call N c ik gy gx ad H=bo P call N c ik gy gx ad H:=λ_ _=>rfl
def j(r:Option aa)(k:aa->O):O:=match r with
 |some v=>k v
 |none=>Z
def aI(H:ae)(r:O)(k:aa->ae->O):O:=match r with
 |some (v,H')=>bif decide (H.next<=H'.next)then k v H' else Z
 |none=>Z
def a7(H:ae)(r:Option ae)(k:ae->O):O:=aI H (r.bind λH'=>D (.tuple [],H')) λ_ H'=>k H'
def bS(H:ae)(r:Option (aa×bO))(k:aa->ae->O):O:=match r with
 |some (v,b)=>k v (H.push b)
 |none=>Z
def cg(H:ae)(cs:List aa)(k:aa->ae->O):O:=k (.ptr H.next 0 0) (H.push (.row U cs.length [cs]))
def bs(fn:Func):Code:=match fn.body with
 |some c=>c
 |none=> .skip
def bf(P:Program)(b:Builtin)(ts:List TypeId)(a:List aa)(H:ae)(k:aa->O):O:=match b2 P .empty b ts a with
 |some v=>k v
 |none=>(b2 P H b ts a).bind k
def pk(P:Program)(s d:TypeId)(v:aa)(H:ae)(k:aa->O):O:=match lu P s d v with
 |some v=>k v
 |none=>(ml P H s d v).bind k
def ca(v:aa)(q:K->O):O:=q (.pure v)
def bA(r:Option aa)(q:K->O):O:=r.bind λv=>q (.pure v)
def qr(r:Option aa)(q:K->O):O:=r.bind λv=>q (.read v)
def aQ(b:aa)(want:Bool)(H:ae)(m:(K->O)->O)(k:aa->ae->O):O:=pn b want m λx=>k x.val (x.heap H)
