/-
  Texts of one proof, laid together: Hv16 Hv17 Hv21 Hv22 Hv23.
-/
import Derived.Test.YtghmbpmaafnodaaDoorMC
set_option linter.unusedVariables false
set_option linter.unusedSimpArgs false
set_option linter.defProp false
open Option renaming some→D,none→Z
open Bool renaming true→X,false→U
namespace Go.b9
section
variable {E:Env}{P:Program}{call:az}{ops:Array Oper}{ord:List Nat}{dZ ct:a_}{H0 bJ:ad}{T:List bF}{ρ0:Env}{w0:World}{Q:Exit->Act->World->Prop}
def Ctx.uniq(c:Ctx P call ops ord dZ H0 T ct bJ){A B:List bF}{t:bF}(h:T=A++t::B){u:bF}(hu:u∈T)(he:u.i=t.i):u=t:=by
 rw[h]at hu;rcases List.mem_append.1 hu with hu|hu
 ·exact absurd he (c.before h hu).1
 ·rcases List.mem_cons.1 hu with rfl|hu
  ·rfl
  ·exact absurd he.symm (c.after h hu).1
def ti(H0:ad)(T:List bF)(N:Nat)(ρ0:Env)(w0:World)(L:Nat->Bool)(ρ:Env)(w:World)(T1 T2:List bF):Prop:=T=T1++T2/\(∀t∈T1,t.k.eG=X->L t.i=X)/\(∀t∈T2,(∃v H,t.k= .dL v H)->L t.i=U)/\eM ρ0 H0 w0 N (dM L T2 (cb T1 H0)) ρ (cb T1 H0) w
def Ctx.next(c:Ctx P call ops ord dZ H0 T ct bJ){A B:List bF}{t:bF}(h:T=A++t::B){listed:Array Bool}(aB:listed.size=ops.size)(y:ps ops (cZ listed))(M:cZ listed t.i=U)
  (hw:nW (cZ listed) t.ai) {ρ:Env} {l:a_} {a:Act} {x:Value} {w:World} (Q:dC ρ l a) (H:l.size=dZ.size) (R:∀d,l.get d=fo (cZ listed) d T (dZ.get d)) (O:bd ρ t.k.val x) {T1 T2:List bF}
  (m:ti H0 T bJ.next ρ0 w0 (cZ (listed.setIfInBounds t.i X)) ρ w T1 T2):Inv ops dZ H0 T bJ.next ρ0 w0 (listed.setIfInBounds t.i X) (a.put t.ai.dst x) w:=by
 obtain⟨G,_,_,K⟩:=c.at h;have E:t.i<listed.size:=by rw[aB];exact(Array.getElem?_eq_some_iff.1 G).1
 have u:cZ (listed.setIfInBounds t.i X) t.i=true:=by rw[rV E];simp
 have n:∀j,j≠t.i->cZ (listed.setIfInBounds t.i X) j=cZ listed j:=λj q=>by rw[rV E];simp[q]
 have F:∀j,cZ listed j=X->cZ (listed.setIfInBounds t.i X) j=true:=λj q=>by
  by_cases e:j=t.i
  ·rw[e];exact u
  ·rw[n j e];exact q
 have N:∃a8,l.put t.ai.dst t.k.val=D a8:=by
  cases L:t.ai.dst with
  |none=>exact⟨l,rfl⟩
  |some d=>
   have:=K d L;exact⟨{l with t:=bm.put t.k.val (d+1) l.t d},by simp only[a_.put];rw[if_pos (by rw[H];exact this)]⟩
 obtain⟨a8,o⟩:=N;refine⟨by simpa using aB,λi ai p z e he v=> ?_,ρ,T1,T2,m.1,m.2.1,m.2.2.1,m.2.2.2,a8,Q.put o O,by rw[a_.o8 o,H],λd=> ?_⟩
 ·by_cases s:i=t.i
  ·subst s;rw[G]at p;cases p;exact F _ (hw e he v)
  ·rw[n i s]at z;exact F _ (y i ai p z e he v)
 ·rw[a_.pZ o d,c.tx h y M u n d,R d]
def Ctx.norm(c:Ctx P call ops ord dZ H0 T ct bJ){N:Nat}{L:Nat->Bool}{ρ:Env}{w:World}:∀{T2 T1:List bF},ti H0 T N ρ0 w0 L ρ w T1 T2->
  ∃y n,ti H0 T N ρ0 w0 L ρ w y n/\∀u e,n=u::e->u.k.eG=X/\L u.i=U
 |[],T1,m=>⟨T1,[],m,λu e h=>by cases h⟩
 |u::T2,T1,m=>by
  by_cases j:u.k.eG=X/\L u.i=U
  ·exact⟨T1,u::T2,m,λE e h=>by simp only[List.cons.injEq]at h;rw[<-h.1];exact j⟩
  ·obtain⟨o,z,p,A⟩:=m;have s:=pL c.aE;rw[o]at s;have B:=(ed.append s).2;have m':=eM.turns (zC:=[u]) (zD:=T2) (L:=L) B (λv a d=>by
    have:v=u:=by simpa using a
    subst this;have l:L v.i=true:=by
     cases a:L v.i with
     |true=>rfl
     |false=>exact absurd ⟨d,a⟩ j
    refine⟨l,?_⟩;cases q:v.k with
    |new x b=>exact⟨x,b,rfl⟩
    |dL x H=>rw[p v (by simp) ⟨x,H,q⟩]at l;cases l
    |_=>rw[q]at d;cases d) A
   rw[<-jx]at m';refine c.norm (T2:=T2) (T1:=T1++[u]) ⟨by rw[o];simp,λv a d=> ?_,λv a=>p v (by simp[a]),m'⟩;rcases List.mem_append.1 a with a|a
   ·exact z v a d
   ·have:v=u:=by simpa using a
    subst this;cases a:L v.i with
    |true=>rfl
    |false=>exact absurd ⟨d,a⟩ j
def vq{L:Nat->Bool}{u:bF}{v:aa}{b:bO}(hu:u.k= .new v b)(e:L u.i=X):∀{zC zD:List bF} {H:ad},ed H (zC++u::zD)->dM L (zC++u::zD) H (cb zC H).next=D b
 |[],zD,H,_=>by simp[dM,hu,e,cb]
 |c::zC,zD,H,hm=>by
  have a:=vq hu e (zC:=zC) (zD:=zD) hm.2;have hle:∀{zC:List bF} {H:ad},ed H zC->H.next<=(cb zC H).next:=by
   intro zC
   induction zC with
   |nil=>intro H _;exact bj _
   |cons x zC n=>intro H h;exact Nat.le_trans h.1 (n h.2)
  by_cases l:∃v b,c.k= .new v b
  ·obtain⟨o,cw,j⟩:=l;have d:=hle (ed.append hm.2).1;have m:=hm.2;rw[j]at d m a;simp only[K.heap,ad.bT]at d a;simp only[List.cons_append,dM,j,cb,K.heap];rw[if_neg af];exact a
  ·rw[List.cons_append,qy λv b h=>l ⟨v,b,h⟩,cb];exact a
def uD{l:Nat}:∀{zC:List bF} {H:ad},(∀x∈zC,lI x.k=X)->l<H.next->(cb zC H).get l=H.get l
 |[],H,_,_=>rfl
 |c::zC,H,a,i=>by
  have e:=a c (by simp);rw[cb];cases h:c.k with
  |new v b=>
   rw[uD (λx d=>a x (by simp[d])) (by simp only[K.heap,ad.bT];omega)];exact ad.dp af
  |dL v H'=>rw[h]at e;cases e
  |_=>exact uD (λx d=>a x (by simp[d])) i
def Rel.Iy{ρ:Env}{H:ad}{w:World}{b:bO}(h:b≠ .dead->∃loc,ρ H.next=D loc/\ig ρ w loc b):Rel ρ (H.push b).only w where
 row l ro esz els a:=by
  obtain⟨rfl,rfl⟩:=ad.qn a;obtain⟨loc,c,d⟩:=h (by intro e;cases e);exact⟨loc,c,d⟩
 map l es a:=by
  obtain⟨rfl,rfl⟩:=ad.qn a;obtain⟨loc,c,d⟩:=h (by intro e;cases e);exact⟨loc,c,d⟩
 bU l t esz els a:=by
  obtain⟨rfl,rfl⟩:=ad.qn a;obtain⟨loc,c,d⟩:=h (by intro e;cases e);exact⟨loc,c,d⟩
 apart l l' loc j c d i _ _:=by
  exfalso;have aS:∃x,(H.push b).only.get l=D x:=by
   unfold ad.rw at c;cases a:(H.push b).only.get l with
   |none=>simp[a]at c
   |some x=>exact⟨x,rfl⟩
  have a2:∃x,(H.push b).only.get l'=D x:=by
   unfold ad.live at d;cases a:(H.push b).only.get l' with
   |none=>simp[a]at d
   |some x=>exact⟨x,rfl⟩
  obtain⟨x,aS⟩:=aS;obtain⟨y,a2⟩:=a2;exact i ((ad.qn aS).1.trans (ad.qn a2).1.symm)
def Ctx.any(c:Ctx P call ops ord dZ H0 T ct bJ)(bv:iM E P call)(bq:E.le ρ0)(bu:∀ρ a w,dC ρ ct a->Step ρ0 H0 w0 ρ bJ w->Q .normal a w):
  ∀(fuel:Nat) (listed:Array Bool) (a:Act) (w:World),Inv ops dZ H0 T bJ.next ρ0 w0 listed a w->(List.range ops.size).countP (λj=> !cZ listed j)<=fuel->wpAny P .any ops Q fuel listed a w:=by
 have a_:∀listed a w,Inv ops dZ H0 T bJ.next ρ0 w0 listed a w->Region.ready .any ops listed=[]->Q .normal a w:=by
  intro listed a w o av;obtain⟨ρ,n,V⟩:=c.final o (c.FD o.size av);exact bu ρ a w n V
 intro fuel
 induction fuel with
 |zero=>
  intro listed a w o bw;have av:Region.ready .any ops listed=[]:=by
   rw[List.eq_nil_iff_forall_not_mem];intro i aX;obtain⟨ai,n,V,aS,aT⟩:=CB aX o.size;have b4:0<(List.range ops.size).countP (λj=> !cZ listed j):=List.countP_pos_iff.2 ⟨i,by simpa using aT,by simp[V]⟩;omega
  exact⟨av,a_ _ _ _ o av⟩
 |succ fuel aH=>
  intro listed a w o bw;refine⟨λav=>a_ _ _ _ o av,λi aX=> ?_⟩;obtain⟨ai,al,aa,hw,a0⟩:=CB aX o.size;have bj:=c.vr;simp only[oD,Bool.and_eq_true,List.all_eq_true,List.mem_range]at bj;have bi:=bj.1 i a0;rw[List.contains_iff_mem,<-(j2 c.aE).1,List.mem_map]at bi;obtain⟨t,ab,rfl⟩:=bi;have bI:=c.mem ab;obtain rfl:t.ai=ai:=Option.some.inj (bI.symm.trans al);obtain⟨ρ,T1,T2,R,ay,az,m,a5,ak,a4,aO⟩:=o.mid;have bk:t.i<listed.size:=by rw[o.size];exact a0
  have an:cZ (listed.setIfInBounds t.i X) t.i=true:=by rw[rV bk];simp
  have S:∀j,j≠t.i->cZ (listed.setIfInBounds t.i X) j=cZ listed j:=λj ap=>by rw[rV bk];simp[ap]
  have aV:(List.range ops.size).countP (λj=> !cZ (listed.setIfInBounds t.i X) j)<=fuel:=by
   have:=x9 (p:=λj=> !cZ listed j) (q:=λj=> !cZ (listed.setIfInBounds t.i X) j) (i:=t.i) (l:=List.range ops.size) (by simpa using a0)
    (λj ap=>by
     by_cases e:j=t.i
     ·rw[e,an]at ap;cases ap
     ·simp only[S j e]at ap;exact ap) (by simp[aa]) (by simp[an])
   omega
  obtain⟨aP,aK,F⟩:=List.append_of_mem ab;have bh:∀d∈t.ai.looksAt ops,a5.get d=t.ae.get d:=λd bx=>by rw[aO d];exact c.looks F o.closed hw aa d bx
  have aN:=Gc bh;have bK:Region.wanted t.ai (yielded ops a.tmps)=jZ ops t.ae t.ai:=(xl ak t.ai).trans (Gd bh);unfold wpOp;rw[al];simp only[bK];have still:t.k.eG=U->∀x,bd ρ t.k.val x->wpAny P .any ops Q fuel (listed.setIfInBounds t.i X) (a.put t.ai.dst x) w:=by
   intro y x z;refine aH _ _ _ (c.next F o.size o.closed aa hw ak a4 aO z (T1:=T1) (T2:=T2) ⟨R,λu hu aj=> ?_,λu hu am=> ?_,?_⟩) aV
   ·have:=ay u hu aj;by_cases e:u.i=t.i
    ·rw[e];exact an
    ·rw[S _ e];exact this
   ·have au:u.i≠t.i:=λe=>by
     have:=c.uniq F (by rw[R];simp[hu]) e;subst this;obtain⟨v,H,O⟩:=am;rw[O]at y;cases y
    rw[S _ au];exact az u hu am
   ·rw[qw (L':=cZ listed) λu hu v b O=>S _ λe=>by
     have:=c.uniq F (by rw[R];simp[hu]) e;subst this;rw[O]at y;cases y]
    exact m
  rcases oh (c.at F).2.2.1 with⟨aw,O⟩|⟨aw,O⟩
  ·rw[aw];simp only[if_true];refine .inl ?_;have a6:t.k.eG=X->∃zC zD,T2=zC++t::zD:=λy=>by
    rw[R]at ab;rcases List.mem_append.1 ab with ab|ab
    ·have:=ay t ab y;rw[aa]at this;cases this
    ·exact List.append_of_mem ab
   have aq:=pL c.aE;cases s:t.k with
   |skip=>rw[s]at O;exact O.elim
   |pure v=>
    rw[s]at O;have W:=kC.congr (λx z=>(aN x z).symm) O;exact Ci W ak λx z=>still (by rw[s];rfl) x (by rw[s];exact z)
   |read v=>
    obtain⟨aL,aR,⟨f1,f2,f3,f4⟩,f5⟩:=c.norm (ρ0:=ρ0) (w0:=w0) (N:=bJ.next) (L:=cZ listed) (ρ:=ρ) (w:=w) (T2:=T2) (T1:=T1) ⟨R,ay,az,m⟩;have aM:∃aQ,Rel ρ aQ w/\gD P t.ai.op t.ae aQ=D v:=by
     rcases EJ s c.MV ab with bz|bG
     ·
       refine⟨_,f4.rel,?_⟩;have be:gD P t.ai.op t.ae (cb aP H0)=D v:=by
        rcases oh (c.at F).2.2.1 with⟨_,bc⟩|⟨z,_⟩
        ·rw[s]at bc;exact bc
        ·rw[aw]at z;cases z
       have bb:∀u∈T,u.k.eG=X->u.i≠t.i/\(c8 (dw ops) u.i t.i=X\/c8 (dw ops) t.i u.i=X):=λu hu y=>by
        have au:u.i≠t.i:=λe=>by
         have:=c.uniq F hu e;subst this;rw[s]at y;cases y
        obtain⟨b1,b2,n⟩:=List.append_of_mem hu;refine⟨au,Mw bz ?_ au (c.at n).1 (AR (c.at n).2.2.1 y)⟩;rw[<-(j2 c.aE).1,List.mem_map];exact⟨u,hu,rfl⟩
       have bD:∀u∈aP,u.k.eG=X->cZ listed u.i=true:=λu hu y=>by
        rcases(bb u (by rw[F];simp[hu]) y).2 with n|n
        ·exact j1 o.closed _ _ al hw _ n
        ·have:=(c.before F hu).2.1;rw[n]at this;cases this
       have bA:∀u∈aK,u.k.eG=X->cZ listed u.i=false:=λu hu y=>by
        have bl:u∈T:=by rw[F];simp[hu]
        rcases(bb u bl y).2 with n|n
        ·have:=(c.after F hu).2.1;rw[n]at this;cases this
        ·cases ah:cZ listed u.i with
         |false=>rfl
         |true=>
          have aF:=c.mem bl;have:=j1 o.closed _ _ aF (o.closed _ _ aF ah) _ n;rw[aa]at this;cases this
       have a3:aL++aR=aP++t::aK:=by rw[<-f1,<-F]
       rcases List.append_eq_append_iff.1 a3 with⟨b0,aB,aU⟩|⟨c',ao,ag⟩
       ·cases b0 with
        |nil=>rw[List.append_nil]at aB;rw[<-aB];exact be
        |cons u bp=>
         obtain⟨g1,g2⟩:=f5 u (bp++t::aK) aU;have:=bD u (by rw[aB];simp) g1;rw[g2]at this;cases this
       ·have bH:∀(aJ:List bF) (H:ad),(∀u∈aJ,u.k.eG=U)->cb aJ H=H:=by
         intro aJ
         induction aJ with
         |nil=>intro H _;rfl
         |cons u aJ aH=>intro H a7;rw[cb,rF (a7 u (by simp))];exact aH H λu hu=>a7 u (by simp[hu])
        rw[ao,jx,bH c' _ ?_]
        ·exact be
        ·intro u hu;cases y:u.k.eG with
         |false=>rfl
         |true=>
          have n:=f2 u (by rw[ao];simp[hu]) y;have V:u∈t::aK:=by rw[ag];simp[hu]
          rcases List.mem_cons.1 V with rfl|V
          ·rw[s]at y;cases y
          ·have:=bA u V y;rw[n]at this;cases this
     ·rcases L0 bG with bm|bE
      rotate_left
      ·obtain⟨A,u,B,bX,b,g1,g2,g3,g4,g5⟩:=BQ bE;refine⟨_,Rel.Iy λaC=> ?_,Cz g5⟩;have ah:=j1 o.closed _ _ al hw _ g3;have a3:aL++aR=A++u::B:=by rw[<-f1,<-g1]
       rcases List.append_eq_append_iff.1 a3 with⟨b0,aB,aU⟩|⟨c',ao,ag⟩
       ·have aG:=f4.iH (cb A H0).next b (by
         rw[f1]at aq;have G:=(ed.append aq).2;rw[aU]at G ⊢;rw[aB,jx];exact vq g2 ah G)
        obtain⟨_,_,_,loc,aI,ax,_⟩:=aG;exact⟨loc,aI,ax⟩
       ·cases c' with
        |nil=>
         have aG:=f4.iH (cb A H0).next b (by
          rw[f1]at aq;have G:=(ed.append aq).2;rw[List.nil_append]at ag;rw[List.append_nil]at ao;rw[<-ag]at G ⊢;rw[ao]at G ⊢;exact vq (zC:=[]) g2 ah G)
         obtain⟨_,_,_,loc,aI,ax,_⟩:=aG;exact⟨loc,aI,ax⟩
        |cons x b3=>
         simp only[List.cons_append,List.cons.injEq]at ag;obtain⟨rfl,ag⟩:=ag;have aW:(cb aL H0).get (cb A H0).next=D b:=by
          rw[ao,jx,cb,g2];rw[uD (λx z=>g4 x (by rw[ag];simp[z])) (by simp[K.heap])];exact ad.bC _ b
         cases b with
         |row ro esz els=>exact f4.rel.row _ _ _ _ aW
         |map es=>exact f4.rel.map _ _ aW
         |bU t esz els=>exact f4.rel.bU _ _ _ _ aW
         |dead=>exact absurd rfl aC
      refine⟨_,f4.rel,?_⟩;rw[show jj (dw ops) (mX P t.ai.op t.ae v) t.i T H0=jj (dw ops) (mX P t.ai.op t.ae v) t.i (aL++aR) H0 by rw[<-f1]]at bm;exact Cz (wC bm (λu hu aj=>by
       cases aC:c8 (dw ops) t.i u.i with
       |false=>rfl
       |true=>
        have aF:=c.mem (t:=u) (by rw[f1];simp[hu]);have:=j1 o.closed _ _ aF (o.closed _ _ aF (f2 u hu aj)) _ aC;rw[aa]at this;cases this) (λu bo hu=>by
       obtain⟨g1,g2⟩:=f5 u bo hu;refine⟨g1,?_⟩;cases aC:c8 (dw ops) u.i t.i with
       |false=>rfl
       |true=>
        have:=j1 o.closed _ _ al hw _ aC;rw[g2]at this;cases this))
    obtain⟨aQ,bL,aM⟩:=aM;rw[<-xc aN]at aM;exact CA bL aM ak λx z=>still (by rw[s];rfl) x (by rw[s];exact z)
   |new v b=>
    obtain⟨zC,zD,M⟩:=a6 (by rw[s];rfl);have n:T=(T1++zC)++t::zD:=by rw[R,M];simp
    have aZ:=(c.at n).2.2.1;rcases oh aZ with⟨_,aD⟩|⟨z,_⟩
    ·rw[s]at aD;have W:=kC.congr (λx z=>(aN x z).symm) aD;have G:ed (cb T1 H0) (zC++t::zD):=by
      have:=aq;rw[R,M]at this;exact(ed.append this).2
     obtain⟨aI,ax⟩:=Cc (L:=cZ listed) (L':=cZ (listed.setIfInBounds t.i X)) s aa an G
      (λu hu=>(S _ (c.before n (by simp[hu])).1).symm) (λu hu=>(S _ (Ne.symm (c.after n hu).1)).symm)
     have ba:(cb T1 H0).next<=(cb zC (cb T1 H0)).next:=(ed.append G).1.le
     have bg:(cb zC (cb T1 H0)).next<bJ.next:=by
      have V:=(ed.append G).2;have aS:=V.2.le;rw[s]at aS;have aT:bJ=cb zD (K.heap (cb zC (cb T1 H0)) (.new v b)):=by
       rw[(j2 c.aE).2.1,n,jx,jx,cb,s]
      rw[aT];simp only[K.heap,ad.bT]at aS ⊢;omega
     rw[M]at m;have bB:iQ P t.ai.op a5 (cb zC (cb T1 H0)).next=D (v,b):=by rw[<-jx];exact W
     refine BR bB ak (m.fresh _ ba bg ax) λx bY bZ loc aY bn bP bQ bR bS gL bV bW bM bN bO=> ?_
     have m':=m.early ba bg ax bn bP bQ bR bS gL bV bW bM bN bO;rw[<-aI]at m';refine aH _ _ _ (c.next F o.size o.closed aa hw (ak.mono bn) a4 aO (by rw[s];exact aY) (T1:=T1) (T2:=zC++t::zD) ⟨by rw[R,M],λu hu aj=> ?_,λu hu am=> ?_,m'⟩) aV
     ·have:=ay u hu aj;by_cases e:u.i=t.i
      ·rw[e];exact an
      ·rw[S _ e];exact this
     ·have au:u.i≠t.i:=λe=>by
       have:=c.uniq F (by rw[R,M];simp at hu ⊢;exact .inr hu) e;subst this;obtain⟨bX,H,W⟩:=am;rw[s]at W;cases W
      rw[S _ au];exact az u (by rw[M];exact hu) am
    ·rw[aw]at z;cases z
   |dL v H'=>
    obtain⟨zC,zD,M⟩:=a6 (by rw[s];rfl);have n:T=(T1++zC)++t::zD:=by rw[R,M];simp
    have aZ:=(c.at n).2.2.1;rcases oh aZ with⟨_,aD⟩|⟨z,_⟩
    ·rw[s]at aD;have W:=kC.congr (λx z=>(aN x z).symm) aD;have G:ed (cb T1 H0) (zC++t::zD):=by
      have:=aq;rw[R,M]at this;exact(ed.append this).2
     have a9:=c.dL;rw[n]at a9;have a8:=(ru a9 s).2;rw[M]at m;have m1:=eM.turns (zC:=zC) (zD:=t::zD) (L:=cZ listed) G (λu hu y=>by
      have ah:=j1 o.closed _ _ al hw _ (a8 u (by simp[hu]) y);refine⟨ah,?_⟩;cases bf:u.k with
      |new x b=>exact⟨x,b,rfl⟩
      |dL x H=>rw[az u (by rw[M];simp[hu]) ⟨x,H,bf⟩]at ah;cases ah
      |_=>rw[bf]at y;cases y) m
     rw[qy (λv b h=>by rw[s]at h;cases h),s]at m1;simp only[K.heap]at m1;have a1:ed H' zD:=by have:=(ed.append G).2.2;rw[s]at this;exact this
     have bs:bJ=cb zD H':=by rw[(j2 c.aE).2.1,n,jx,cb,s];rfl
     have bt:H'.next<=bJ.next:=by rw[bs];exact a1.le
     rw[jx]at W;refine yd (H:=cb zC (cb T1 H0)) (H':=H') bv m1.rel ⟨λl g1 g2=>m1.fresh l g1 af ?_,Env.le_trans bq m1.le⟩ W ak λx bY bZ g1 g2=> ?_
     ·cases a2:dM (cZ listed) zD H' l with
      |none=>rfl
      |some b=>have:=qx a1 a2;omega
     ·have m2:=m1.step g2 bt (λl b a2=>qx a1 a2);refine aH _ _ _ (c.next F o.size o.closed aa hw (ak.mono g2.le) a4 aO (by rw[s];exact g1) (T1:=T1++zC++[t]) (T2:=zD) ⟨by rw[n];simp,λu hu aj=> ?_,λu hu am=> ?_,?_⟩) aV
      ·by_cases e:u.i=t.i
       ·rw[e];exact an
       ·rw[S _ e];simp only[List.mem_append,List.mem_singleton]at hu;rcases hu with(hu|hu)|rfl
        ·exact ay u hu aj
        ·exact j1 o.closed _ _ al hw _ (a8 u (by simp[hu]) aj)
        ·exact absurd rfl e
      ·rw[S _ (Ne.symm (c.after n hu).1)];exact az u (by rw[M];simp[hu]) am
      ·have br:cb (T1++zC++[t]) H0=H':=by rw[jx,cb,s];rfl
       rw[br,qw (L':=cZ listed) λu hu v b O=>S _ (Ne.symm (c.after n hu).1)];exact m2
    ·rw[aw]at z;cases z
  ·rw[aw];simp only[Bool.false_eq_true,if_false];exact still (by rw[O];rfl) undef (by rw[O];exact .tuple [] [] .nil)
def MY{id:Nat}{a:Act}{w:World}(hm:P.follows .mixedOrders=X)(u:iM E P call)(c:Ctx P call ops ord dZ H0 T ct bJ)(s:Rel ρ0 H0 w)(n:hB E ρ0 H0.next bJ.next)(x:dC ρ0 dZ a)
  (q:∀ρ a m,dC ρ ct a->Step ρ0 H0 w ρ bJ m->Q .normal a m):(Code.region id ops X).wp P Q a w:=by
 have k:∀j,cZ (Array.replicate ops.size U) j=false:=λj=>by
  unfold cZ;rw[Array.getD_eq_getD_getElem?];by_cases h:j<ops.size<;>simp[h]
 refine wp_region_any hm (c.any (ρ0:=ρ0) (w0:=w.drew) u n.le (λρ a m p e=>q ρ a m p ?_) _ _ _ _ ⟨by simp,λi ai _ v=>absurd v (by rw[k];simp),ρ0,[],T,rfl,by simp,λt _ _=>k _,?_,dZ,x,rfl,λd=> ?_⟩ ?_)
 ·exact⟨e.le,e.next,e.aX,e.rel,e.os,e.tape,e.output,e.size,e.frame,e.own,e.ro⟩
 ·have aG:dM (cZ (Array.replicate ops.size U)) T (cb [] H0)=λ_=>none:=by
   have:∀(T:List bF) (H:ad),dM (cZ (Array.replicate ops.size U)) T H=λ_=>none:=by
    intro T
    induction T with
    |nil=>intro H;rfl
    |cons t T o=>
     intro H
     funext l
     unfold dM;split
     ·rw[o,k];simp
     ·rw[o]
   exact this T _
  rw[aG];exact eM.start s.drew n.new
 ·rw[sb λt _ _=>k _]
 ·refine Nat.le_trans List.countP_le_length ?_;simp
end
def hb(P:Program)(call:az)(ops:Array Oper):List Oper->a_->ad->Option (a_×ad)
 |[],ae,H=>D (ae,H)
 |ai::os,ae,H=>match gV P call ops ai ae H with
  |none=>Z
  |some k=>match ae.put ai.dst k.val with
   |none=>Z
   |some a8=>hb P call ops os a8 (k.heap H)
def Ft(ai:Oper):Bool:=match cls ai.op with
 | .write=>X
 | .call=>X
 |_=>U
def need(m:Nat)(done:Nat):List Nat->List Nat
 |[]=>[]
 |j::a=>if m.testBit j&& !done.testBit j then j::need m done a else need m done a
def C_(done:Nat):List Nat->Nat
 |[]=>done
 |j::a=>C_ (done|||2^j) a
def vk(ms all:List Nat):List (Nat×Oper)->Nat->List Nat
 |[],done=>need (2^all.length-1) done all
 |(i,ai)::is,done=>if Ft ai&& !done.testBit i then
   (let a:=need (ms[i]?.getD 0) done all
    a++i::vk ms all is (C_ done a|||2^i))
  else vk ms all is done
def E2:Nat->List Oper->List (Nat×Oper)
 |_,[]=>[]
 |i,ai::os=>(i,ai)::E2 (i+1) os
def order(ops:Array Oper):List Nat:=vk (dw ops) (List.range ops.size) (E2 0 ops.toList) 0
def e3(P:Program)(call:az)(ops:Array Oper)(draw:Bool)(ae:a_)(H:ad):Option (a_×ad):=
 match draw with
 |false=>hb P call ops ops.toList ae H
 |true=>match canRun P call ops (order ops) ae H with
  |none=>Z
  |some (T,a8,H')=>match iw (dw ops) T []with
   |false=>Z
   |true=>match kz P (dw ops) (tied ops (dw ops) (order ops)) T H T with
    |false=>Z
    |true=>D (a8,H')
def jF:Code->Bool
 | .region _ ops X=>oD ops (dw ops) (order ops)
 | .seq a b=>jF a&&jF b
 | .cond _ a b=>jF a&&jF b
 | .block _ b=>jF b
 | .loop b=>jF b
 |_=>X
inductive aL where
 |normal
 |exit (id:Nat)
 |ret
def aL.uc:aL->Exit
 | .normal=> .normal
 | .exit id=> .exit id
 | .ret=> .ret
abbrev re:=Array Oper->Bool->a_->ad->Option (a_×ad)
def iter(f:a_->ad->Option (aL×a_×ad)):Nat->a_->ad->Option (aL×a_×ad)
 |0,_,_=>Z
 |n+1,ae,H=>match f ae H with
  |some (.normal,a8,H')=>iter f n a8 H'
  |r=>r
def cx(gZ:re)(N:Nat):Code->a_->ad->Option (aL×a_×ad)
 | .skip,ae,H=>D (.normal,ae,H)
 | .region _ ops d,ae,H=>match gZ ops d ae H with
  |some (a8,H')=>D (.normal,a8,H')
  |none=>Z
 | .seq a b,ae,H=>match cx gZ N a ae H with
  |some (.normal,a8,H')=>cx gZ N b a8 H'
  |r=>r
 | .cond c a b,ae,H=>match b4 ae c with
  |some (.bool X)=>cx gZ N a ae H
  |some (.bool U)=>cx gZ N b ae H
  |_=>Z
 | .block id b,ae,H=>match cx gZ N b ae H with
  |some (.exit e,a8,H')=>if e=id then D (.normal,a8,H')else D (.exit e,a8,H')
  |r=>r
 | .loop b,ae,H=>iter (λae H=>cx gZ N b ae H) N ae H
 | .exit id,ae,H=>D (.exit id,ae,H)
 | .ret,ae,H=>D (.ret,ae,H)
 | .label _,ae,H=>D (.normal,ae,H)
 |_,_,_=>Z
def a_.qk(t:bm aa):Nat->List aa->bm aa
 |_,[]=>t
 |i,v::a=>a_.qk (bm.put v (i+1) t i) (i+1) a
def a_.enter(n:Nat)(args:List aa):a_:=⟨a_.qk .leaf 0 args,args.length+(n-args.length)⟩
def n5(P:Program)(ae:a_)(H:ad):ResultVar->Option aa
 | .tmp t=>D (ae.get t)
 | .cell a t=>an P H t (ae.get a)
def gS(P:Program)(ae:a_)(H:ad):List ResultVar->Option (List aa)
 |[]=>D []
 |r::rs=>match n5 P ae H r,gS P ae H rs with
  |some v,D a=>D (v::a)
  |_,_=>Z
def lq:List aa->aa
 |[v]=>v
 |a=> .tuple a
def b6(P:Program)(ay:az)(N:Nat):Nat->az
 |0,_,_,_=>Z
 |n+1,f,args,H=>match ay f args H with
 |some r=>D r
 |none=>match P.funcs[f]? with
  |none=>Z
  |some fn=>match fn.body with
   |none=>Z
   |some c=>match cx (e3 P (b6 P ay N n)) N c (a_.enter fn.ntmps args) H with
    |none=>Z
    |some (ex,ae,H')=>match ex with
     | .exit _=>Z
     |_=>match gS P ae H' fn.results.toList with
      |none=>Z
      |some a=>D (lq a,H')
section
variable {E:Env}{P:Program}{ay:az}{call:az}{gZ:re}{N:Nat}
def vQ{ops:Array Oper}:∀{os:List Oper} {ae a8:a_} {H H':ad},hb P call ops os ae H=D (a8,H')->H.next<=H'.next
 |[],ae,a8,H,H',h=>by
  simp only[hb,aU,bY]at h;obtain⟨rfl,rfl⟩:=h;exact bj _
 |ai::os,ae,a8,H,H',h=>by
  simp only[hb]at h;split at h
  ·cases h
  ·rename_i k a;split at h
   ·cases h
   ·exact Nat.le_trans (uM a) (vQ h)
def tp(gZ:re):Prop:=∀ops d ae H a8 H',gZ ops d ae H=D (a8,H')->H.next<=H'.next
def CC:tp (e3 P call):=by
 intro ops d ae H a8 H' h;unfold e3 at h;split at h
 ·exact vQ h
 ·split at h
  ·cases h
  ·rename_i T c H1 a;split at h
   ·cases h
   ·split at h
    ·cases h
    ·simp only[aU,bY]at h;obtain⟨rfl,rfl⟩:=h;rw[(j2 a).2.1];exact(pL a).le
def rH{f:a_->ad->Option (aL×a_×ad)}(a:∀ae H ex a8 H',f ae H=D (ex,a8,H')->H.next<=H'.next):∀{n:Nat} {ae:a_} {H:ad} {ex:aL} {a8:a_} {H':ad},
  iter f n ae H=D (ex,a8,H')->H.next<=H'.next
 |0,_,_,_,_,_,h=>by cases h
 |n+1,ae,H,ex,a8,H',h=>by
  simp only[iter]at h;split at h
  ·rename_i d H1 c;exact Nat.le_trans (a _ _ _ _ _ c) (rH a h)
  ·exact a _ _ _ _ _ h
def yg(n:tp gZ):∀(c:Code) {ae:a_} {H:ad} {ex:aL} {a8:a_} {H':ad},cx gZ N c ae H=D (ex,a8,H')->H.next<=H'.next:=by
 intro c
 induction c with
 |skip=>intro ae H ex a8 H' h;simp only[cx,aU,bY]at h;obtain⟨_,_,rfl⟩:=h;exact bj _
 |region id ops d=>
  intro ae H ex a8 H' h;simp only[cx]at h;split at h
  ·rename_i m H1 e;simp only[aU,bY]at h;obtain⟨_,_,rfl⟩:=h;exact n _ _ _ _ _ _ e
  ·cases h
 |seq a b j k=>
  intro ae H ex a8 H' h;simp only[cx]at h;split at h
  ·rename_i m H1 e;exact Nat.le_trans (j e) (k h)
  ·exact j h
 |cond c a b j k=>
  intro ae H ex a8 H' h;simp only[cx]at h;split at h
  ·exact j h
  ·exact k h
  ·cases h
 |block id b i=>
  intro ae H ex a8 H' h;simp only[cx]at h;split at h
  ·rename_i o m H1 e;have:=i e;split at h<;>(simp only[aU,bY]at h;obtain⟨_,_,rfl⟩:=h;exact this)
  ·exact i h
 |loop b i=>
  intro ae H ex a8 H' h;simp only[cx]at h;exact rH (λ_ _ _ _ _ h=>i h) h
 |exit id=>intro ae H ex a8 H' h;simp only[cx,aU,bY]at h;obtain⟨_,_,rfl⟩:=h;exact bj _
 |ret=>intro ae H ex a8 H' h;simp only[cx,aU,bY]at h;obtain⟨_,_,rfl⟩:=h;exact bj _
 |label l=>intro ae H ex a8 H' h;simp only[cx,aU,bY]at h;obtain⟨_,_,rfl⟩:=h;exact bj _
 |goto l=>intro ae H ex a8 H' h;cases h
 |scope b i=>intro ae H ex a8 H' h;cases h
 |rangeFunc f p a b j k=>intro ae H ex a8 H' h;cases h
 |refuse y=>intro ae H ex a8 H' h;cases h
def C9(s:iM E P call){ops:Array Oper}{Q:Exit->Act->World->Prop}:∀{os:List Oper} {ae a8:a_} {H H':ad} {ρ:Env} {w:World} {a:Act},hb P call ops os ae H=D (a8,H')->
  Rel ρ H w->hB E ρ H.next H'.next->dC ρ ae a->(∀d b0 c,dC d a8 b0->Step ρ H w d H' c->Q .normal b0 c)->wpList P ops Q os a w
 |[],ae,a8,H,H',ρ,w,a,h,e,_,i,p=>by
  simp only[hb,aU,bY]at h;obtain⟨rfl,rfl⟩:=h;exact p ρ a w i (.refl e)
 |ai::os,ae,a8,H,H',ρ,w,a,h,e,q,i,p=>by
  simp only[hb]at h;split at h
  ·cases h
  ·rename_i k y;split at h
   ·cases h
   ·rename_i ab A;have z:=vQ h;have ag:=uM y;have go:∀x c d,bd d k.val x->Step ρ H w d (k.heap H) c->wpList P ops Q os (a.put ai.dst x) c:=λx c d m aB=>
     C9 s h aB.rel (q.after aB) ((i.mono aB.le).put A m) λW a2 V n o=>p W a2 V n (aB.trans o)
    unfold wpList;rw[xl i ai];rcases oh y with⟨hw,j⟩|⟨hw,rfl⟩
    ·rw[hw];simp only[if_true];refine .inl ?_;cases k with
     |skip=>exact j.elim
     |pure v=>exact Ci j i λx m=>go x w ρ m (.refl e)
     |read v=>exact CA e j i λx m=>go x w ρ m (.refl e)
     |new v b=>
      have u:ρ H.next=none:=q.new _ (bj _) (by simp only[K.heap,ad.bT]at z;omega)
      refine BR j i u λx c d loc aY L M N O R gL S T B F G=>go x c d aY ?_
      have m0:eM ρ H w (H.next+1) (λ_=>Z) ρ H w:=eM.start e λl n o=>by
       have:l=H.next:=af
       rw[this];exact u
      have m1:=m0.early (bj _) af rfl L M N O R gL S T B F G;exact(m1.Eo (b:=b) (by simp)).done rfl
     |dL v aa=>
      exact yd s e (q.left z) j i λx c d n o=>go x c d n o
    ·rw[hw];simp only[Bool.false_eq_true,if_false];exact go undef w ρ (.tuple [] [] .nil) (.refl e)
def wU(E:Env)(P:Program)(gZ:re):Prop:=∀(id:Nat) (ops:Array Oper) (d:Bool) (ae:a_) (H:ad) (a8:a_) (H':ad),gZ ops d ae H=D (a8,H')->(d=X->oD ops (dw ops) (order ops)=X)->∀(ρ:Env) (w:World) (a:Act) (Q:Exit->Act->World->Prop),Rel ρ H w->hB E ρ H.next H'.next->dC ρ ae a->(∀e b0 c,dC e a8 b0->Step ρ H w e H' c->Q .normal b0 c)->(Code.region id ops d).wp P Q a w
def CE(hm:P.follows .mixedOrders=X)(i:iM E P call):wU E P (e3 P call):=by
 intro id ops d ae H a8 H' h m ρ w a Q e j k c;unfold e3 at h;split at h
 ·exact wp_region_list (C9 i h e j k c)
 ·split at h
  ·cases h
  ·rename_i T p H1 l;split at h
   ·cases h
   ·rename_i n;split at h
    ·cases h
    ·rename_i o;simp only[aU,bY]at h;obtain⟨rfl,rfl⟩:=h;exact MY hm i ⟨l,m rfl,n,o⟩ e j k c
def MZ{c:Code}{Q:Exit->Act->World->Prop}(p:Nat->Act->World->Prop)(round:∀n a w,p n a w->∃m,n=m+1/\c.wp P (Exit.then (p m) Q) a w){n:Nat}{a:Act}{w:World}(z:p n a w):(Code.loop c).wp P Q a w:=by
 intro b k cs;have key:∀n a w,p n a w->∃e b0 q,Q e b0 q/\Arrives P (lone (b.at a (.code c:: .inLoop c::k)) cs w) b k cs e b0 q:=by
  intro n
  induction n with
  |zero=>intro a w h;obtain⟨m,hm,_⟩:=round 0 a w h;omega
  |succ n A=>
   intro a w h;obtain⟨m,hm,hw⟩:=round _ a w h;obtain rfl:m=n:=af;obtain⟨e,j,o,i,d⟩:=hw b (.inLoop c::k) cs;cases e with
   |normal=>
    obtain⟨u,s,B,y,v⟩:=A j o i;exact⟨u,s,B,y,.of_steps (Steps.trans d (.one step_inLoop)) v⟩
   |exit id=>exact⟨_,j,o,i,.pass (x:= .inLoop c) rfl (λ_ _=> .inl (by simp)) d⟩
   |goto l=>exact⟨_,j,o,i,.pass (x:= .inLoop c) rfl (λ_ _=> .inl (by simp)) d⟩
   |ret=>exact⟨_,j,o,i,.pass (x:= .inLoop c) rfl (λ_ _=> .inl (by simp)) d⟩
   |panic E=>exact⟨_,j,o,i,.pass (x:= .inLoop c) rfl (λ_ _=> .inl (by simp)) d⟩
   |outgrown=>exact⟨_,j,o,i,.pass (x:= .inLoop c) rfl (λ_ _=> .inl (by simp)) d⟩
 obtain⟨e,b0,q,i,d⟩:=key _ a w z;exact⟨e,b0,q,i,.of_steps (.one step_loop) d⟩
def s_(E:Env)(P:Program)(c:Code)(f:a_->ad->Option (aL×a_×ad)):Prop:=∀(ae:a_) (H:ad) (ex:aL) (a8:a_) (H':ad),f ae H=D (ex,a8,H')->∀(ρ:Env) (w:World) (a:Act) (Q:Exit->Act->World->Prop),Rel ρ H w->hB E ρ H.next H'.next->dC ρ ae a->(∀e b0 d,dC e a8 b0->Step ρ H w e H' d->Q ex.uc b0 d)->c.wp P Q a w
def HM{c:Code}{f:a_->ad->Option (aL×a_×ad)}(l:s_ E P c f)(o:∀ae H ex a8 H',f ae H=D (ex,a8,H')->H.next<=H'.next)(n:Nat):s_ E P (.loop c) (iter f n):=by
 intro ae H ex a8 H' h ρ w a Q y m B x;refine MZ (n:=n) (λn aS i=>∃j H1 e,iter f n j H1=D (ex,a8,H')/\Step ρ H w e H1 i/\dC e j aS) ?_ ⟨ae,H,ρ,h,.refl y,B⟩;rintro n aS i ⟨j,H1,e,d,aB,p⟩;cases n with
 |zero=>cases d
 |succ n=>
  refine⟨n,rfl,?_⟩;have hle:=rH o d;simp only[iter]at d;split at d
  ·rename_i u s v;have z:=rH o d;refine l _ _ _ _ _ v e i aS _ aB.rel (hB.left (hB.after m aB) z) p λk a2 q g1 g2=> ?_
   exact⟨u,s,k,d,aB.trans g2,g1⟩
  ·rename_i A;refine l _ _ _ _ _ d e i aS _ aB.rel (hB.after m aB) p λk a2 q g1 g2=> ?_
   have:=x k a2 q g1 (aB.trans g2);cases ex with
   |normal=>exact absurd d (A _ _)
   |exit id=>exact this
   |ret=>exact this
def yi(B:tp gZ)(G:wU E P gZ):∀(c:Code),jF c=X->s_ E P c (cx gZ N c):=by
 intro c
 induction c with
 |skip=>
  intro _ ae H ex a8 H' h ρ w a Q j k e i;simp only[cx,aU,bY]at h;obtain⟨rfl,rfl,rfl⟩:=h;exact wp_skip (i ρ a w e (.refl j))
 |region id ops d=>
  intro aG ae H ex a8 H' h ρ w a Q j k e i;simp only[cx]at h;split at h
  ·rename_i A H1 m;simp only[aU,bY]at h;obtain⟨rfl,rfl,rfl⟩:=h;exact G id ops d ae H _ _ m (λF=>by subst F;exact aG) ρ w a Q j k e i
  ·cases h
 |seq x y q s=>
  intro aG ae H ex a8 H' h ρ w a Q j k e i;simp only[jF,Bool.and_eq_true]at aG;simp only[cx]at h;refine wp_seq ?_;split at h
  ·rename_i A H1 m;have hle:=yg B y h;refine q aG.1 _ _ _ _ _ m ρ w a _ j (k.left hle) e λo aS n g1 g2=> ?_
   exact s aG.2 _ _ _ _ _ h o n aS Q g2.rel (k.after g2) g1 λM a2 L g3 g4=>i M a2 L g3 (g2.trans g4)
  ·rename_i v;refine q aG.1 _ _ _ _ _ h ρ w a _ j k e λo aS n g1 g2=> ?_
   have:=i o aS n g1 g2;cases ex with
   |normal=>exact absurd h (v _ _)
   |exit id=>exact this
   |ret=>exact this
 |cond c x y q s=>
  intro aG ae H ex a8 H' h ρ w a Q j k e i;simp only[jF,Bool.and_eq_true]at aG;simp only[cx]at h;split at h
  ·rename_i u;have m:=dh e u;refine wp_cond_true (by generalize a.eval c=z at m;cases m;rfl) ?_;exact q aG.1 _ _ _ _ _ h ρ w a Q j k e i
  ·rename_i u;have m:=dh e u;refine wp_cond_false (by generalize a.eval c=z at m;cases m;rfl) ?_;exact s aG.2 _ _ _ _ _ h ρ w a Q j k e i
  ·cases h
 |block id b p=>
  intro aG ae H ex a8 H' h ρ w a Q j k e i;simp only[cx]at h;refine wp_block ?_;split at h
  ·rename_i K A H1 m;split at h
   ·rename_i hid;simp only[aU,bY]at h;obtain⟨rfl,rfl,rfl⟩:=h;refine p aG _ _ _ _ _ m ρ w a _ j k e λo aS n g1 g2=> ?_
    have:=i o aS n g1 g2;simp only[aL.uc,Exit.inBlock,hid,if_true];exact this
   ·rename_i hid;simp only[aU,bY]at h;obtain⟨rfl,rfl,rfl⟩:=h;refine p aG _ _ _ _ _ m ρ w a _ j k e λo aS n g1 g2=> ?_
    have:=i o aS n g1 g2;simp only[aL.uc,Exit.inBlock,hid,if_false];exact this
  ·rename_i v;refine p aG _ _ _ _ _ h ρ w a _ j k e λo aS n g1 g2=> ?_
   have:=i o aS n g1 g2;cases ex with
   |normal=>exact this
   |exit K=>exact absurd h (v _ _ _)
   |ret=>exact this
 |loop b p=>
  intro aG ae H ex a8 H' h ρ w a Q j k e i;simp only[cx]at h;exact HM (p aG) (λ_ _ _ _ _ h=>yg B b h) N ae H ex a8 H' h ρ w a Q j k e i
 |exit id=>
  intro _ ae H ex a8 H' h ρ w a Q j k e i;simp only[cx,aU,bY]at h;obtain⟨rfl,rfl,rfl⟩:=h;exact wp_exit (i ρ a w e (.refl j))
 |ret=>
  intro _ ae H ex a8 H' h ρ w a Q j k e i;simp only[cx,aU,bY]at h;obtain⟨rfl,rfl,rfl⟩:=h;exact wp_ret (i ρ a w e (.refl j))
 |label l=>
  intro _ ae H ex a8 H' h ρ w a Q j k e i;simp only[cx,aU,bY]at h;obtain⟨rfl,rfl,rfl⟩:=h;exact wp_label (i ρ a w e (.refl j))
 |goto l=>intro _ ae H ex a8 H' h;cases h
 |scope b p=>intro _ ae H ex a8 H' h;cases h
 |rangeFunc f O a b q s=>intro _ ae H ex a8 H' h;cases h
 |refuse y=>intro _ ae H ex a8 H' h;cases h
def vd:∀(args:List aa) (t:bm aa) (i d:Nat),(a_.qk t i args).get d=if i<=d/\d<i+args.length then args[d-i]? else t.get d
 |[],t,i,d=>by simp only[a_.qk,List.length_nil];rw[if_neg af]
 |v::e,t,i,d=>by
  simp only[a_.qk];rw[vd e];by_cases a:i+1<=d/\d<i+1+e.length
  ·rw[if_pos a,if_pos (by simp;omega),show d-i=(d-(i+1))+1 by omega];simp
  ·rw[if_neg a];by_cases c:d=i
   ·subst c;rw[bm.p1 _ _ _ _ af,if_pos (by simp)];simp
   ·rw[bm.p0 _ _ _ _ _ (Ne.symm c),if_neg (by simp;omega)]
def ye{ρ:Env}{args:List aa}{xs:List Value}(h:bq ρ args xs)(n:Nat):dC ρ (a_.enter n args) {tmps:=xs.toArray++Array.replicate (n-xs.toArray.size) undef,defers:=[]}:=by
 have i:=h.length;refine⟨by simp[a_.enter,i],λd=> ?_,rfl⟩;unfold a_.get a_.enter;simp only
 rw[vd];rw[Array.getD_eq_getD_getElem?];by_cases e:d<args.length
 ·rw[if_pos af];obtain⟨v,c⟩:∃v,args[d]? =D v:=⟨args[d],by simp[e]⟩;obtain⟨x,k,j⟩:=h.get d v c;have a:(xs.toArray++Array.replicate (n-xs.toArray.size) undef)[d]? =D x:=by
   rw[Array.getElem?_append_left (by simp;omega)];simpa using k
  rw[a];simp only[Nat.sub_zero,c,Option.getD_some];exact j
 ·rw[if_neg af];have a:((xs.toArray++Array.replicate (n-xs.toArray.size) undef)[d]?).getD undef=undef:=by
   rw[Array.getElem?_append_right (by simp;omega)];simp only[Array.getElem?_replicate];split<;>rfl
  rw[a,bm.pX];exact .tuple [] [] .nil
def qF(tmps:Array Value):ResultVar->Sem Value
 | .tmp t=>pure (tmps.getD t undef)
 | .cell b t=>do loadVar t (<-asAddr (tmps.getD b undef))
def F7{ρ:Env}{H:ad}{w:World}{ae:a_}{a:Act}(m:Rel ρ H w)(e:dC ρ ae a){r:ResultVar}{v:aa}(h:n5 P ae H r=D v):
  ∃x,(qF a.tmps r).run P w= .ok x w/\bd ρ v x:=by
 cases r with
 |tmp t=>
  simp only[n5,aU]at h;subst h;exact⟨_,rfl,e.get t⟩
 |cell b t=>
  simp only[n5]at h;obtain⟨x,j,k⟩:=tE m h (e.get b);refine⟨x,?_,k⟩;have d:=e.get b;simp only[qF];generalize a.tmps.getD b undef=z at d j ⊢;have aG:∃l i c,ae.get b= .ptr l i c:=by
   generalize ae.get b=u at h;unfold an at h;cases u<;>first|exact⟨_,_,_,rfl⟩|(exfalso;simp at h)
  obtain⟨l,i,c,aG⟩:=aG;rw[aG]at d;cases d;simpa [Instr.loadAt,Instr.sureAddr,asAddr]using j
def xd{ρ:Env}{H:ad}{w:World}{ae:a_}{a:Act}(d:Rel ρ H w)(e:dC ρ ae a):∀{rs:List ResultVar} {c:List aa},gS P ae H rs=D c->
  ∃xs:List Value,(rs.mapM (qF a.tmps)).run P w= .ok xs w/\bq ρ c xs
 |[],c,h=>by simp only[gS,aU]at h;subst h;exact⟨[],by simp[Sem.run_pure],.nil⟩
 |r::rs,c,h=>by
  simp only[gS]at h;split at h
  ·rename_i v o m n;simp only[aU]at h;subst h;obtain⟨x,i,j⟩:=F7 d e m;obtain⟨xs,k,l⟩:=xd d e n;refine⟨x::xs,?_,.cons _ _ _ _ j l⟩;rw[List.mapM_cons];simp only[Sem.run_bind,Result.andThen_ok,Sem.run_pure,i,k]
  ·cases h
def Ja(fn:Func)(tmps:Array Value):results fn tmps=(do
  let a<-fn.results.mapM (qF tmps)
  pure (if h:a.size=1 then a[0]else .tuple a)):=by
 unfold results
 congr 1
def CH{ρ:Env}{H:ad}{w:World}{ae:a_}{a:Act}(m:Rel ρ H w)(n:dC ρ ae a){fn:Func}{d:List aa}(h:gS P ae H fn.results.toList=D d):
  ∃x,(results fn a.tmps).run P w= .ok x w/\bd ρ (lq d) x:=by
 obtain⟨xs,e,i⟩:=xd m n h;have hm:(fn.results.mapM (qF a.tmps)).run P w= .ok xs.toArray w:=by
  rw[Array.mapM_eq_mapM_toList];simp only[Sem.run_map,e,Result.andThen_ok]
 refine⟨if h:xs.toArray.size=1 then xs.toArray[0]else .tuple xs.toArray,?_,?_⟩
 ·rw[Ja];simp only[Sem.run_bind,hm,Result.andThen_ok,Sem.run_pure]
 ·cases i with
  |nil=>exact .tuple [] [] .nil
  |cons v x p u c j=>
   cases j with
   |nil=>exact c
   |cons o s q y k l=>
    simp only[lq];rw[dif_neg (by simp)];exact .tuple _ _ (.cons _ _ _ _ c (.cons _ _ _ _ k l))
structure mm(P:Program):Prop where
 mixed:P.follows .mixedOrders=true
 names:∀fn∈P.funcs,(fn.name== "runtime.NumGoroutine")=false
 Cf:∀(f:Nat) (fn:Func) (c:Code),P.funcs[f]? =some fn->fn.body=some c->jF c=true
def yj(a:mm P)(l:iM E P ay):∀n,iM E P (b6 P ay N n)
 |0=>λg args H v H' h=>by cases h
 |n+1=>by
  intro g args H v H' h ρ w xs m p o B next q
  simp only[b6]at h;split at h
  ·rename_i r K;cases h;exact l g args H v H' K ρ w xs m p o B next q
  split at h
  ·cases h
  ·rename_i fn d;split at h
   ·cases h
   ·rename_i c i;split at h
    ·cases h
    ·rename_i ex ae H1 z;have O:=yj a l n;have y:=yi (N:=N) CC (CE a.mixed O) c (a.Cf _ _ _ d i);have F:(fn.name== "runtime.NumGoroutine")=false:=a.names fn (Array.mem_of_getElem? d);have L:(callFunc g xs.toArray).run P w= .ok (.enter g xs.toArray) w:=by
      unfold callFunc;simp[d,i];intro A;simp[A]at F
     unfold ll;rw[L];simp only
     split at h
     ·cases h
     ·rename_i G;split at h
      ·cases h
      ·rename_i S M;simp only[aU,bY]at h;obtain⟨rfl,rfl⟩:=h;refine calls_of_wp d i (y _ _ _ _ _ z ρ w _ _ m p (ye o fn.ntmps) λR b0 Q e k=> ?_);obtain⟨x,j,u⟩:=CH k.rel e M;have s:=q x Q R u k;cases ex with
       |normal=>exact⟨e.none,x,j,s⟩
       |ret=>exact⟨e.none,x,j,s⟩
       |exit id=>exact absurd rfl (G id)
end
section
variable {E:Env}{P:Program}{ay:az}
def ml(P:Program)(ay:az)(f:Nat)(args:List aa)(H:ad)(r:aa×ad):Prop:=∃k,∀N,k<=N->∀n,k<=n->b6 P ay N n f args H=D r
def ml.uniq{f:Nat}{args:List aa}{H:ad}{r s:aa×ad}(h:ml P ay f args H r)(ba:ml P ay f args H s):r=s:=by
 obtain⟨k,d⟩:=h;obtain⟨j,c⟩:=ba;have a:=d (max k j) (Nat.le_max_left ..) (max k j) (Nat.le_max_left ..);rw[c (max k j) (Nat.le_max_right ..) (max k j) (Nat.le_max_right ..)]at a;exact(Option.some.inj a).symm
open Classical in
noncomputable def aC(P:Program)(ay:az):az:=λf args H=>if h:∃r,ml P ay f args H r then D h.choose else Z
def yl{f:Nat}{args:List aa}{H:ad}{r:aa×ad}(h:aC P ay f args H=D r):ml P ay f args H r:=by
 unfold aC at h;split at h
 ·rename_i a;rw[<-Option.some.inj h];exact a.choose_spec
 ·cases h
def Bg{f:Nat}{args:List aa}{H:ad}{r:aa×ad}(h:ml P ay f args H r):aC P ay f args H=D r:=by
 unfold aC;have a:∃r,ml P ay f args H r:=⟨r,h⟩;rw[dif_pos a];exact congrArg D (a.choose_spec.uniq h)
def GR(c:mm P)(a:iM E P ay):iM E P (aC P ay):=by
 intro g args H v H' h;obtain⟨k,d⟩:=yl h;exact yj c a k g args H v H' (d k (bj _) k (bj _))
def Ml{ai:Op}{ae:a_}{H:ad}{x:K}(h:step1 P (aC P ay) ai ae H=D x):∃k,∀N,k<=N->∀n,k<=n->step1 P (b6 P ay N n) ai ae H=D x:=by
 unfold step1 at h;unfold step1;split at h
 ·exact⟨0,λ_ _ _ _=>h⟩
 ·exact⟨0,λ_ _ _ _=>h⟩
 ·exact⟨0,λ_ _ _ _=>h⟩
 ·exact⟨0,λ_ _ _ _=>h⟩
 ·exact⟨0,λ_ _ _ _=>h⟩
 ·split at h
  ·split at h
   ·rename_i g j d;cases a:aC P ay g j H with
    |none=>rw[a]at h;cases h
    |some r=>
     obtain⟨k,e⟩:=yl a;refine⟨k,λN c n i=> ?_⟩;rw[a]at h;simp only[d,e N c n i];exact h
   ·cases h
  ·cases h
def AQ{ops:Array Oper}{ai:Oper}{ae:a_}{H:ad}{x:K}(h:gV P (aC P ay) ops ai ae H=D x):∃k,∀N,k<=N->∀n,k<=n->gV P (b6 P ay N n) ops ai ae H=D x:=by
 unfold gV at h;unfold gV;split at h
 ·rename_i hw;obtain⟨k,c⟩:=Ml h;exact⟨k,λN a n d=>c N a n d⟩
 ·exact⟨0,λ_ _ _ _=>h⟩
def C8{ops:Array Oper}:∀{os:List Oper} {ae:a_} {H:ad} {x:a_×ad},hb P (aC P ay) ops os ae H=D x->∃k,∀N,k<=N->∀n,k<=n->hb P (b6 P ay N n) ops os ae H=D x
 |[],ae,H,x,h=>⟨0,λ_ _ _ _=>h⟩
 |ai::os,ae,H,x,h=>by
  simp only[hb]at h;split at h
  ·cases h
  ·rename_i y e;split at h
   ·cases h
   ·rename_i a8 a;obtain⟨k,d⟩:=AQ e;obtain⟨j,c⟩:=C8 h;refine⟨max k j,λN i n l=> ?_⟩;simp only[hb,d N af n af,a,c N af n af]
def x1{ops:Array Oper}:∀{is:List Nat} {ae:a_} {H:ad} {x:List bF×a_×ad},canRun P (aC P ay) ops is ae H=D x->∃k,∀N,k<=N->∀n,k<=n->canRun P (b6 P ay N n) ops is ae H=D x
 |[],ae,H,x,h=>⟨0,λ_ _ _ _=>h⟩
 |i::is,ae,H,x,h=>by
  simp only[canRun]at h;split at h
  ·cases h
  ·rename_i ai l;split at h
   ·cases h
   ·rename_i y m;split at h
    ·cases h
    ·rename_i a8 a;split at h
     ·cases h
     ·rename_i T ct bJ c;obtain⟨k,e⟩:=AQ m;obtain⟨j,d⟩:=x1 c;refine⟨max k j,λN o n p=> ?_⟩;simp only[canRun,l,e N af n af,a,d N af n af];exact h
def I7{ops:Array Oper}{d:Bool}{ae:a_}{H:ad}{x:a_×ad}(h:e3 P (aC P ay) ops d ae H=D x):∃k,∀N,k<=N->∀n,k<=n->e3 P (b6 P ay N n) ops d ae H=D x:=by
 unfold e3 at h;unfold e3;split at h
 ·obtain⟨k,c⟩:=C8 h;exact⟨k,λN a n e=>c N a n e⟩
 ·split at h
  ·cases h
  ·rename_i T a8 H' i;obtain⟨k,c⟩:=x1 i;refine⟨k,λN a n e=> ?_⟩;simp only[c N a n e];exact h
def AL{f:a_->ad->Option (aL×a_×ad)}:∀{n m:Nat} {ae:a_} {H:ad} {x:aL×a_×ad},iter f n ae H=D x->n<=m->iter f m ae H=D x
 |0,_,_,_,_,h,_=>by cases h
 |n+1,0,_,_,_,_,hm=>af
 |n+1,m+1,ae,H,x,h,hm=>by
  simp only[iter]at h ⊢;split at h
  ·rename_i a8 H' he;exact AL h af
  ·exact h
def AK{f:a_->ad->Option (aL×a_×ad)}{g:Nat->Nat->a_->ad->Option (aL×a_×ad)}(a:∀ae H x,f ae H=D x->∃k,∀N,k<=N->∀n,k<=n->g N n ae H=D x):
  ∀{M:Nat} {ae:a_} {H:ad} {x:aL×a_×ad},iter f M ae H=D x->∃k,∀N,k<=N->∀n,k<=n->iter (g N n) M ae H=D x
 |0,_,_,_,h=>by cases h
 |M+1,ae,H,x,h=>by
  simp only[iter]at h;split at h
  ·rename_i a8 H' he;obtain⟨k,c⟩:=a _ _ _ he;obtain⟨j,i⟩:=AK a h;refine⟨max k j,λN d n e=> ?_⟩;simp only[iter,c N af n af];exact i N af n af
  ·rename_i l;obtain⟨k,c⟩:=a _ _ _ h;refine⟨k,λN d n e=> ?_⟩;simp only[iter,c N d n e];split
   ·rename_i a8 H' he;cases he;exact absurd h (l _ _)
   ·rfl
def GP{M:Nat}:∀(c:Code) {ae:a_} {H:ad} {x:aL×a_×ad},cx (e3 P (aC P ay)) M c ae H=D x->∃k,∀N,k<=N->∀n,k<=n->cx (e3 P (b6 P ay N n)) N c ae H=D x:=by
 intro c
 induction c with
 |skip=>intro ae H x h;exact⟨0,λ_ _ _ _=>h⟩
 |region id ops d=>
  intro ae H x h;simp only[cx]at h;split at h
  ·rename_i w H1 o;obtain⟨k,e⟩:=I7 o;refine⟨k,λN i n m=> ?_⟩;simp only[cx,e N i n m];exact h
  ·cases h
 |seq a b q s=>
  intro ae H x h;simp only[cx]at h;split at h
  ·rename_i w H1 o;obtain⟨k,e⟩:=q o;obtain⟨j,z⟩:=s h;refine⟨max k j,λN i n m=> ?_⟩;simp only[cx,e N af n af,z N af n af]
  ·rename_i v;obtain⟨k,e⟩:=q h;refine⟨k,λN i n m=> ?_⟩;simp only[cx,e N i n m];split
   ·rename_i a8 H' he;cases he;exact absurd h (v _ _)
   ·rfl
 |cond c a b q s=>
  intro ae H x h;simp only[cx]at h;split at h
  ·rename_i u;obtain⟨k,e⟩:=q h;refine⟨k,λN i n m=> ?_⟩;simp only[cx,u,e N i n m]
  ·rename_i u;obtain⟨k,e⟩:=s h;refine⟨k,λN i n m=> ?_⟩;simp only[cx,u,e N i n m]
  ·cases h
 |block id b p=>
  intro ae H x h;simp only[cx]at h;split at h
  ·rename_i B w H1 o;obtain⟨k,e⟩:=p o;refine⟨k,λN i n m=> ?_⟩;simp only[cx,e N i n m];exact h
  ·rename_i v;obtain⟨k,e⟩:=p h;refine⟨k,λN i n m=> ?_⟩;simp only[cx,e N i n m];split
   ·rename_i B a8 H' he;cases he;exact absurd h (v _ _ _)
   ·rfl
 |loop b p=>
  intro ae H x h;simp only[cx]at h;obtain⟨k,e⟩:=AK (g:=λN n=>cx (e3 P (b6 P ay N n)) N b) (λae H x A=>p A) h;refine⟨max k M,λN i n m=> ?_⟩;simp only[cx];exact AL (e N af n af) af
 |exit id=>intro ae H x h;exact⟨0,λ_ _ _ _=>h⟩
 |ret=>intro ae H x h;exact⟨0,λ_ _ _ _=>h⟩
 |label l=>intro ae H x h;exact⟨0,λ_ _ _ _=>h⟩
 |goto l=>intro ae H x h;cases h
 |scope b p=>intro ae H x h;cases h
 |rangeFunc f E a b q s=>intro ae H x h;cases h
 |refuse y=>intro ae H x h;cases h
def yk{f:Nat}{args:List aa}{H H':ad}{fn:Func}{c:Code}{M:Nat}{ex:aL}{ae:a_}{d:List aa}(e:ay f args H=Z)(j:P.funcs[f]? =D fn)(i:fn.body=D c)
  (h:cx (e3 P (aC P ay)) M c (a_.enter fn.ntmps args) H=D (ex,ae,H')) (hex:∀id,ex≠ .exit id) (a:gS P ae H' fn.results.toList=D d):aC P ay f args H=D (lq d,H'):=by
 obtain⟨k,l⟩:=GP c h;refine Bg ⟨k+1,λN m n o=> ?_⟩;cases n with
 |zero=>omega
 |succ n=>
  simp only[b6,e,j,i,l N af n af];cases ex with
  |exit id=>exact absurd rfl (hex id)
  |normal=>simp only[a]
  |ret=>simp only[a]
def lA{f:Nat}{args:List aa}{H:ad}{r:aa×ad}(h:ay f args H=D r):aC P ay f args H=D r:=by
 refine Bg ⟨1,λN a n c=> ?_⟩;cases n with
 |zero=>omega
 |succ n=>simp only[b6,h]
end
abbrev O:=Option (aa×ad)
abbrev ct:=Nat->aa
def ec(ae:ct)(dst:Option Nat)(v:aa):ct:=match dst with
 |none=>ae
 |some d=>λe=>bif Nat.beq e d then v else ae e
def db(ae:ct):Operand->Option aa
 | .tmp t=>D (ae t)
 | .const v=>ql v
 | .global _=>Z
 | .func f=>D (.func (.func f) [] [])
def kJ(ae:ct):List Operand->Option (List aa)
 |[]=>D []
 |x::xs=>(db ae x).bind λv=>(kJ ae xs).bind λa=>D (v::a)
def pT(ae:ct):List (Nat×Operand)->Option (List (Nat×aa))
 |[]=>D []
 |(i,x)::xs=>(db ae x).bind λv=>(pT ae xs).bind λa=>D ((i,v)::a)
def pU(ae:ct):Option Operand->Option (Option aa)
 |none=>D Z
 |some x=>(db ae x).bind λv=>D (D v)
def cD(c:aa)(a b:Option aa):Option aa:=match c with
 | .bool t=>bif t then a else b
 |_=>Z
def rv(P:Program)(t:TypeId)(c:Bool)(a b:aa):Bool:=
 match a,b with
 | .nilIface,.nilIface=>c
 | .agg _,.agg _=> !P.eqGuardType P.depth t
 |_,_=>X
def aq(P:Program)(op:BinOp)(t:TypeId)(c:Bool)(x y:aa):Option aa:=
 match x,y with
 | .int k a,.int d b=>
  (match op with
  | .shl=>oc .shl k a b
  | .shr=>oc .shr k a b
  |op=>if k=d then hj op k a b else Z)
 | .str a,.str b=>qW op a b
 |x,y=>
  (match op with
  | .eql=>if rv P t c x y then(jr P 10000 t x y).map .bool else Z
  | .neq=>if rv P t c x y then(jr P 10000 t x y).map λb=> .bool (!b)else Z
  |_=>Z)
def GO(P:Program)(t:TypeId)(x y:Operand)(u v:aa):rv P t (isConst x||isConst y) u v=mE P t x y u v:=by
 unfold rv mE;cases u<;>cases v<;>rfl
def GW(P:Program)(op:BinOp)(t:TypeId)(x y:Operand)(u v:aa):aq P op t (isConst x||isConst y) u v=pB P op t x y u v:=by
 unfold aq pB;simp only[GO];cases u<;>cases v<;>cases op<;>rfl
def rB(P:Program)(ai:Op)(ae:ct):Option aa:=
 match ai with
 | .move x=>db ae x
 | .assign x=>db ae x
 | .pick c a b=>(db ae c).bind λu=>cD u (db ae a) (db ae b)
 | .build t n=>(pT ae n.toList).bind (ch P t)
 | .nilCheck x=>(db ae x).bind bW
 | .binOp op t x y _=>(db ae x).bind λu=>(db ae y).bind λv=>aq P op t (isConst x||isConst y) u v
 | .unOp op _ x=>(db ae x).bind (ff op)
 | .convert s d x=>(db ae x).bind (lp P s d)
 | .makeInterface t x=>(db ae x).bind (tB P t)
 | .makeFunc fn f c=>(kJ ae f.toList).bind λe=>(kJ ae c.toList).bind λcs=>D (.func fn e cs)
 | .slice t x lo j k=>(db ae x).bind λv=>(pU ae lo).bind λl=>(pU ae j).bind λh=>(pU ae k).bind λm=>js P t v l h m
 | .fieldAddr t x f=>(db ae x).bind λv=>aI P t v f
 | .field t x f=>(db ae x).bind λv=>cA P t v f
 | .indexAddr t x i=>(db ae x).bind λu=>(db ae i).bind λv=>cB P t u v
 | .index t x i=>(db ae x).bind λu=>(db ae i).bind λv=>eE P t u v
 | .extract x i=>(db ae x).bind λv=>eg v i
 | .typeAssert x _ t ok=>(db ae x).bind (tv P t ok)
 | .call c=>match c.callee with
  | .builtin b=>(kJ ae c.args.toList).bind (bZ P .empty b c.argTypes.toList)
  |_=>Z
 |_=>Z
def ob(P:Program)(ai:Op)(ae:ct)(H:ad):Option aa:=
 match ai with
 | .load t x=>(db ae x).bind (an P H t)
 | .lookup t x k ok=>(db ae x).bind λu=>(db ae k).bind λv=>rj P H t u v ok
 | .convert s d x=>(db ae x).bind (mo P H s d)
 | .call c=>match c.callee with
  | .builtin b=>(kJ ae c.args.toList).bind (bZ P H b c.argTypes.toList)
  |_=>Z
 |_=>Z
def dS(l:Nat)(v:aa):Option (aa×bO):=bif v.cells.all aa.one then D (.ptr l 0 0,.row U v.cells.length [v.cells])else Z
def n7(ot:Option TypeId)(l:Nat)(v:aa):Option (aa×bO):=bif v.cells.all aa.one then D (.ptr l 0 0,dx ot v.cells.length [v.cells])else Z
def bV(P:Program)(l:Nat)(t:TypeId)(len:Nat)(parts:List (Nat×aa)):Option (aa×bO):=
 match P.underlying t with
 |some (.slice e)=>
  (match cl P e,eF P e with
  |some a,D z=>
   bif decide (len*a<=16777216/\z.cells.length=a/\z.cells.all aa.one=X)then
    (ir a (List.replicate len z.cells) parts).bind λels=>D (.aA l 0 len a (D len),.row U a els)
   else Z
  |_,_=>Z)
 |_=>Z
def um(P:Program)(ai:Op)(ae:ct)(l:Nat):Option (aa×bO):=
 match ai with
 | .alloc t=>(eF P t).bind (n7 (ow P t) l)
 | .box t x=>(db ae x).bind (n7 (ow P t) l)
 | .buildSlice t n a=>(pT ae a.toList).bind (bV P l t n)
 | .makeMap _ Z=>D (.map l,.map [])
 | .makeSlice t x c=>(db ae x).bind λu=>(db ae c).bind λv=>mR (rk P ⟨.leaf,l⟩ t u v) l
 |_=>Z
def uw(P:Program)(ai:Op)(ae:ct)(H:ad):Option (aa×ad):=
 match ai with
 | .store t x y=>(db ae x).bind λu=>(db ae y).bind λv=>(aV P H t u v).bind λH'=>D (.tuple [],H')
 | .mapUpdate t m k x=>(db ae m).bind λu=>(db ae k).bind λv=>(db ae x).bind λz=>(n3 P H t u v z).bind λH'=>D (.tuple [],H')
 | .insert t m k x=>(db ae m).bind λu=>(db ae k).bind λv=>(db ae x).bind λz=>(n3 P H t u v z).bind λH'=>D (.tuple [],H')
 | .call c=>match c.callee,c.args.toList with
  | .builtin .append,[s,x]=>(db ae s).bind λu=>(db ae x).bind λv=>cQ P H c.argTypes.toList u v
  | .builtin .clear,[x]=>(db ae x).bind λu=>(ri P H c.argTypes.toList u).bind λH'=>D (.tuple [],H')
  |_,_=>Z
 |_=>Z
def x0(f:aa)(a:List aa):Option (Nat×List aa):=match f with
 | .func (.func g) first captured=>D (g,first++a++captured)
 |_=>Z
def BL(P:Program)(H:ad)(r:aa)(name:String)(a:List aa):Option (Nat×List aa):=(n4 P H r name).bind λp=>D (p.1,p.2::a)
def ue(P:Program)(H:ad)(ae:ct)(c:Call):Option (Nat×List aa):=
 match c.callee with
 | .value f=>(db ae f).bind λu=>(kJ ae c.args.toList).bind λa=>x0 u a
 | .invoke r name=>(db ae r).bind λu=>(kJ ae c.args.toList).bind λa=>BL P H u name a
 |_=>Z
def gj(a b:Option aa)(k:K->O):O:=match a with
 |some v=>k (.pure v)
 |none=>b.bind λv=>k (.read v)
def s7(r:Option (aa×bO))(k:K->O):O:=match r with
 |some (v,b)=>k (.new v b)
 |none=>Z
def eL(H:ad)(r:O)(k:K->O):O:=match r with
 |some (v,H')=>bif decide (H.next<=H'.next)then k (.dL v H')else Z
 |none=>Z
def rz(P:Program)(call:az)(ai:Op)(ae:ct)(H:ad)(k:K->O):O:=
 match cls ai with
 | .pure=>(rB P ai ae).bind λv=>k (.pure v)
 | .read=>(ob P ai ae H).bind λv=>k (.read v)
 | .both=>gj (rB P ai ae) (ob P ai ae H) k
 | .new=>s7 (um P ai ae H.next) k
 | .write=>eL H (uw P ai ae H) k
 | .call=>match ai with
  | .call c=>(ue P H ae c).bind λp=>eL H (call p.1 p.2 H) k
  |_=>Z
def eZ(b:aa)(want:Bool)(m:(K->O)->O)(k:K->O):O:=match b with
 | .bool t=>bif t==want then m k else k .skip
 |_=>k .skip
def rA(P:Program)(call:az)(ops:Array Oper)(ai:Oper)(ae:ct)(H:ad)(k:K->O):O:=
 match ai.guard with
 |none=>rz P call ai.op ae H k
 |some (j,want)=>match ops[j]? with
  |some q=>(match q.dst with
   |some d=>eZ (ae d) want (rz P call ai.op ae H) k
   |none=>k .skip)
  |none=>k .skip
def sR(P:Program)(call:az)(ops:Array Oper):List Oper->ct->ad->(ct->ad->O)->O
 |[],ae,H,k=>k ae H
 |ai::os,ae,H,k=>rA P call ops ai ae H λx=>sR P call ops os (ec ae ai.dst x.val) (x.heap H) k
structure fZ where
 i:Nat
 k:K
 rd:ad->Option aa
def mD(ms:List Nat):List fZ->List Nat->Bool
 |[],_=>X
 |t::ts,ids=>match t.k with
  | .dL _ _=>ids.all (λj=>c8 ms j t.i)&&mD ms ts (t.i::ids)
  | .new _ _=>mD ms ts (t.i::ids)
  |_=>mD ms ts ids
def bh(r:Option aa)(v:aa):Bool:=match r with
 |some u=>aa.beq u v
 |none=>U
def mg(ms:List Nat)(rd:ad->Bool)(i:Nat):List fZ->ad->Bool
 |[],H=>rd H
 |t::ts,H=>bif t.k.eG then(c8 ms t.i i||rd H)&&(c8 ms i t.i||mg ms rd i ts (t.k.heap H))else mg ms rd i ts H
def my(ms:List Nat)(i:Nat):List fZ->Bool->Bool
 |[],_=>U
 |t::ts,s=>match t.k with
  | .new _ _=>(s&&c8 ms t.i i&&ts.all λu=>lI u.k)||my ms i ts (s|| !c8 ms t.i i)
  | .dL _ _=>my ms i ts (s|| !c8 ms t.i i)
  |_=>my ms i ts s
def mQ(ms:List Nat)(rd:ad->Bool)(i:Nat):List fZ->ad->Bool->Bool
 |[],_,_=>U
 |t::ts,H,s=>match t.k with
  | .new _ b=>bif s&&c8 ms t.i i&&ts.all (λu=>lI u.k)then rd (H.push b).only||mQ ms rd i ts (H.push b) (s|| !c8 ms t.i i)else mQ ms rd i ts (H.push b) (s|| !c8 ms t.i i)
  | .dL _ H'=>mQ ms rd i ts H' (s|| !c8 ms t.i i)
  |_=>mQ ms rd i ts H s
def qR(ms:List Nat)(rd:ad->Bool)(i:Nat)(T:List fZ)(H:ad):Bool:=bif my ms i T U then mg ms rd i T H||mQ ms rd i T H U else mg ms rd i T H
def ph(ms:List Nat)(a:List Nat)(T:List fZ)(H:ad):List fZ->Bool
 |[]=>X
 |t::ts=>(match t.k with
  | .read v=>a.contains t.i||qR ms (λH=>bh (t.rd H) v) t.i T H
  |_=>X)&&ph ms a T H ts
def ly(ms:List Nat)(a:List Nat)(T:List fZ)(H:ad):Bool:=mD ms T []&&ph ms a T H T
def pK(P:Program)(call:az)(ops:Array Oper):List Nat->ct->ad->(List fZ->ct->ad->O)->O
 |[],ae,H,k=>k [] ae H
 |i::is,ae,H,k=>match ops[i]? with
  |none=>Z
  |some ai=>rA P call ops ai ae H λx=>pK P call ops is (ec ae ai.dst x.val) (x.heap H) λT a8 H'=>k (⟨i,x,ob P ai.op ae⟩::T) a8 H'
def we(ops:Array Oper):List Nat:=(order ops).filter (tied ops (dw ops) (order ops))
def quiet(ops:Array Oper):Bool:=ops.toList.all λai=> !mJ ai.op
def vB(P:Program)(call:az)(ops:Array Oper)(draw:Bool)(ae:ct)(H:ad)(k:ct->ad->O):O:=
 match draw with
 |false=>sR P call ops ops.toList ae H k
 |true=>bif quiet ops then pK P call ops (order ops) ae H λ_ a8 H'=>k a8 H' else
  pK P call ops (order ops) ae H λT a8 H'=>bif ly (dw ops) (we ops) T H then k a8 H' else Z
def aW(c:Option aa)(a b:O):O:=match c with
 |some (.bool t)=>bif t then a else b
 |_=>Z
abbrev dT:=ct->ad->O
def look(i:Nat):List (Nat×dT)->dT
 |[],_,_=>Z
 |(j,k)::ks,ae,H=>bif Nat.beq i j then k ae H else look i ks ae H
def mK(b:dT->dT):Nat->dT
 |0,_,_=>Z
 |n+1,ae,H=>b (λae H=>mK b n ae H) ae H
def bp(P:Program)(call:az)(N:Nat):Code->dT->List (Nat×dT)->dT->dT
 | .skip,e,_,_,ae,H=>e ae H
 | .region _ ops d,e,_,_,ae,H=>vB P call ops d ae H e
 | .seq a b,e,ks,h,ae,H=>bp P call N a (λae H=>bp P call N b e ks h ae H) ks h ae H
 | .cond c a b,e,ks,h,ae,H=>aW (db ae c) (bp P call N a e ks h ae H) (bp P call N b e ks h ae H)
 | .block id b,e,ks,h,ae,H=>bp P call N b e ((id,e)::ks) h ae H
 | .loop b,_,ks,h,ae,H=>mK (λe ae H=>bp P call N b e ks h ae H) N ae H
 | .exit id,_,ks,_,ae,H=>look id ks ae H
 | .ret,_,_,h,ae,H=>h ae H
 | .label _,e,_,_,ae,H=>e ae H
 |_,_,_,_,_,_=>Z
def oH(P:Program)(H:ad)(ae:ct):List ResultVar->(List aa->O)->O
 |[],k=>k []
 | .tmp t::rs,k=>oH P H ae rs λc=>k (ae t::c)
 | .cell a t::rs,k=>(an P H t (ae a)).bind λv=>oH P H ae rs λc=>k (v::c)
def kQ(P:Program)(rs:List ResultVar):dT:=λae H=>oH P H ae rs λa=>D (lq a,H)
def kF:List aa->ct
 |[],_=> .tuple []
 |v::_,0=>v
 |_::a,n+1=>kF a n
section
variable {P:Program}{ay:az}{call:az}{ae a8:a_}{H:ad}
def j4(x:Operand):db ae.get x=b4 ae x:=by cases x<;>rfl
def pV:∀xs:List Operand,kJ ae.get xs=gE ae xs
 |[]=>rfl
 |x::xs=>by
  simp only[kJ,gE,j4,pV xs];cases b4 ae x<;>cases gE ae xs<;>rfl
def uq:∀xs:List (Nat×Operand),pT ae.get xs=im ae xs
 |[]=>rfl
 |(i,x)::xs=>by
  simp only[pT,im,j4,uq xs];cases b4 ae x<;>cases im ae xs<;>rfl
def Hk(x:Option Operand):pU ae.get x=jt ae x:=by
 cases x with
 |none=>rfl
 |some x=>simp only[pU,jt,j4];cases b4 ae x<;>rfl
def At(ai:Op):rB P ai ae.get=iq P ai ae:=by
 cases ai<;>simp only[rB,iq,j4,pV,uq,Hk,GW]
 ·rename_i c a b;cases d:b4 ae c with
  |none=>rfl
  |some v=>cases v<;>first|rfl|(rename_i t;cases t<;>rfl)
 ·rename_i c;cases c.callee<;>rfl
def ur(ai:Op):ob P ai ae.get H=gD P ai ae H:=by
 cases ai<;>simp only[ob,gD,j4,pV]
 ·rename_i c;cases c.callee<;>rfl
def vc(v:aa)(l:Nat)(b:bO)(a:b.jA=X):mR (D (v,ad.push ⟨.leaf,l⟩ b)) l=D (v,b):=by
 unfold mR;simp only[ad.bT,if_true];have:(ad.push ⟨.leaf,l⟩ b).get l=D b:=ad.bC ⟨.leaf,l⟩ b;rw[this];simp[a]
def Iq(ot:Option TypeId)(esz:Nat)(els:List (List aa)):(dx ot esz els).jA=true:=by cases ot<;>rfl
def xU(ot:Option TypeId)(l:Nat)(v:aa):n7 ot l v=mR (nX ot ⟨.leaf,l⟩ v) l:=by
 unfold n7 nX;by_cases h:v.cells.all aa.one=X
 ·rw[h,if_pos rfl];exact(vc _ _ _ (Iq _ _ _)).symm
 ·rw[if_neg h];simp only[Bool.not_eq_true]at h;rw[h];rfl
def Mf(l:Nat)(t:TypeId)(n:Nat)(a:List (Nat×aa)):bV P l t n a=mR (pC P ⟨.leaf,l⟩ t n a) l:=by
 unfold bV pC;cases hu:P.underlying t with
 |none=>rfl
 |some d=>
  cases d<;>try rfl
  rename_i e;simp only
  cases aB:cl P e with
  |none=>rfl
  |some c=>
  cases i:eF P e with
  |none=>rfl
  |some z=>
   simp only
   by_cases h:n*c<=16777216/\z.cells.length=c/\z.cells.all aa.one=X
   ·rw[if_pos h,decide_eq_true h];simp only[aZ];cases ir c (List.replicate n z.cells) a with
    |none=>rfl
    |some els=>exact(vc _ _ _ rfl).symm
   ·rw[if_neg h,decide_eq_false h];rfl
def Hf(ai:Op)(l:Nat):um P ai ae.get l=iQ P ai ae l:=by
 unfold iQ;cases ai<;>simp only[um,mu,j4,uq]<;>try rfl
 ·rename_i t;unfold rh;cases eF P t with
  |none=>rfl
  |some v=>exact xU _ l v
 ·rename_i t x;cases b4 ae x with
  |none=>rfl
  |some v=>exact xU _ l v
 ·rename_i t n a;cases im ae a.toList with
  |none=>rfl
  |some v=>exact Mf l t n v
 ·rename_i t r;cases r with
  |none=>exact(vc _ _ _ rfl).symm
  |some r=>rfl
 ·rename_i t x c;cases b4 ae x with
  |none=>rfl
  |some u=>cases b4 ae c<;>rfl
def map_bind{α β:Type}(x:Option α)(f:α->β):x.bind (λa=>D (f a))=x.map f:=by cases x<;>rfl
def Hl(ai:Op):uw P ai ae.get H=j0 P ai ae H:=by
 cases ai<;>simp only[uw,j0,j4,map_bind]
 ·rename_i c;cases d:c.callee with
  |builtin b=>
   cases a:c.args.toList with
   |nil=>cases b<;>rfl
   |cons s r=>
    cases r with
    |nil=>cases b<;>rfl
    |cons x r=>cases r<;>cases b<;>rfl
  |value f=>rfl
  |invoke r m=>rfl
def GY(c:Call):ue P H ae.get c=kE P H ae c:=by
 unfold ue kE;cases h:c.callee with
 |value f=>
  simp only[j4,pV];cases b4 ae f with
  |none=>rfl
  |some v=>
   cases d:gE ae c.args.toList with
   |none=>
    simp only[Option.bind_some,Option.bind_none];split<;>first|rfl|(simp_all;done)
   |some e=>
    simp only[Option.bind_some];unfold x0;split
    ·rename_i g first captured;rfl
    ·rename_i a;split
     ·rename_i g first captured he
      simp only[aU]at he;exact absurd he (a _ _ _)
     ·rfl
 |invoke r m=>
  simp only[j4,pV];cases b4 ae r with
  |none=>rfl
  |some v=>
   simp only[Option.bind_some];cases d:gE ae c.args.toList with
   |none=>cases n4 P H v m<;>rfl
   |some e=>
    simp only[Option.bind_some,BL];cases n4 P H v m<;>rfl
 |builtin b=>rfl
def zp(ai:Op)(k:K->O):rz P call ai ae.get H k=(step1 P call ai ae H).bind k:=by
 unfold rz step1;cases e:cls ai with
 |pure=>simp only[At];cases iq P ai ae<;>rfl
 |read=>simp only[ur];cases gD P ai ae H<;>rfl
 |both=>
  simp only[At,ur];unfold gj;cases iq P ai ae with
  |some v=>rfl
  |none=>cases gD P ai ae H<;>rfl
 |new=>
  simp only[Hf];unfold s7;cases iQ P ai ae H.next<;>rfl
 |write=>
  simp only[Hl];unfold eL;cases h:j0 P ai ae H with
  |none=>rfl
  |some r=>
   obtain⟨v,H'⟩:=r;simp only[oe];by_cases a:H.next<=H'.next
   ·rw[if_pos a,decide_eq_true a];rfl
   ·rw[if_neg a,decide_eq_false a];rfl
 |call=>
  cases ai<;>try rfl
  rename_i c;simp only[GY];cases kE P H ae c with
  |none=>rfl
  |some p=>
   obtain⟨g,d⟩:=p;simp only[Option.bind_some];unfold eL;cases h:call g d H with
   |none=>rfl
   |some r=>
    obtain⟨v,H'⟩:=r;simp only[oe];by_cases a:H.next<=H'.next
    ·rw[if_pos a,decide_eq_true a];rfl
    ·rw[if_neg a,decide_eq_false a];rfl
def zq(ops:Array Oper)(ai:Oper)(k:K->O):rA P call ops ai ae.get H k=(gV P call ops ai ae H).bind k:=by
 unfold rA gV jZ;cases c:ai.guard with
 |none=>exact zp ai.op k
 |some p=>
  obtain⟨j,want⟩:=p;simp only
  cases h:ops[j]? with
  |none=>rfl
  |some q=>
   simp only
   cases a:q.dst with
   |none=>rfl
   |some d=>
    simp only
    cases i:ae.get d<;>try rfl
    rename_i t;simp only[eZ];cases e:(t==want)with
    |true=>simp only[aZ];exact zp ai.op k
    |false=>rfl
def Ew{dst:Option Nat}{v:aa}(h:ae.put dst v=D a8):ec ae.get dst v=a8.get:=by
 funext e
 rw[a_.pZ h];cases dst with
 |none=>simp[ec]
 |some d=>
  simp only[ec];by_cases he:e=d
  ·subst he;simp[Nat.beq_refl]
  ·have a:Nat.beq e d=false:=by rw[<-Bool.not_eq_true,Nat.beq_eq];exact he
   rw[a];simp[Ne.symm he]
def mC(n:Nat)(ai:Oper):Bool:=match ai.dst with
 |none=>X
 |some d=>decide (d<n)
def Cm{ai:Oper}(h:mC ae.size ai=X)(v:aa):∃a8,ae.put ai.dst v=D a8/\a8.size=ae.size:=by
 unfold mC at h;cases a:ai.dst with
 |none=>exact⟨ae,rfl,rfl⟩
 |some d=>
  rw[a]at h;exact⟨{ae with t:=bm.put v (d+1) ae.t d},by simp only[a_.put];rw[if_pos (of_decide_eq_true h)],rfl⟩
def C7(ops:Array Oper)(k:ct->ad->O):∀(os:List Oper) (ae:a_) (H:ad),os.all (mC ae.size)=X->
  sR P call ops os ae.get H k=(hb P call ops os ae H).bind λp=>k p.1.get p.2
 |[],ae,H,_=>rfl
 |ai::os,ae,H,h=>by
  simp only[List.all_cons,Bool.and_eq_true]at h;simp only[sR,hb,zq];cases d:gV P call ops ai ae H with
  |none=>rfl
  |some x=>
   obtain⟨a8,a,c⟩:=Cm h.1 x.val;simp only[Option.bind_some,a,Ew a];exact C7 ops k os a8 _ (by rw[c];exact h.2)
def bF.c(P:Program)(t:bF):fZ:=⟨t.i,t.k,ob P t.ai.op t.ae.get⟩
def yc(ms:List Nat):∀(T:List bF) (ids:List Nat),mD ms (T.map (bF.c P)) ids=iw ms T ids
 |[],_=>rfl
 |t::T,ids=>by
  simp only[List.map_cons,mD,iw,bF.c];cases t.k<;>simp only[yc ms T]
def wB(ms:List Nat)(rd:ad->Bool)(i:Nat):∀(T:List bF) (H:ad),mg ms rd i (T.map (bF.c P)) H=jj ms rd i T H
 |[],_=>rfl
 |t::T,H=>by
  simp only[List.map_cons,mg,jj,bF.c];cases t.k.eG
  ·simp only[aT];exact wB ms rd i T H
  ·simp only[aZ,if_true];rw[wB ms rd i T]
def x2(ms:List Nat)(i:Nat):∀(T:List bF) (s:Bool),my ms i (T.map (bF.c P)) s=mz ms i T s
 |[],_=>rfl
 |t::T,s=>by
  simp only[List.map_cons,my,mz,bF.c];cases t.k<;>simp only[x2 ms i T,List.all_map]<;>rfl
def BP(ms:List Nat)(rd:ad->Bool)(i:Nat):∀(T:List bF) (H:ad) (s:Bool),mQ ms rd i (T.map (bF.c P)) H s=jD ms rd i T H s
 |[],_,_=>rfl
 |t::T,H,s=>by
  simp only[List.map_cons,mQ,jD,bF.c];cases t.k<;>simp only[BP ms rd i T,List.all_map]<;>rfl
def LY(ms:List Nat)(rd:ad->Bool)(i:Nat)(T:List bF)(H:ad):qR ms rd i (T.map (bF.c P)) H=o6 ms rd i T H:=by
 simp only[qR,o6,x2,BP,wB]
def EH(ms:List Nat)(d:List Nat)(a:Nat->Bool)(T:List bF)(H:ad):∀(S:List bF),(∀t∈S,d.contains t.i=a t.i)->ph ms d (T.map (bF.c P)) H (S.map (bF.c P))=kz P ms a T H S
 |[],_=>rfl
 |t::S,h=>by
  simp only[List.map_cons,ph,kz,EH ms d a T H S λt e=>h t (by simp[e])]
  congr 1
  simp only[bF.c,h t (by simp)];cases t.k<;>try rfl
  simp only[LY]
  congr 2
  funext H
  simp only[bh,mX,ur];cases gD P t.ai.op t.ae H<;>rfl
def Cp(ms:List Nat):∀(T:List bF) (ids:List Nat),(∀t∈T,t.k.eG=U)->iw ms T ids=X
 |[],_,_=>rfl
 |t::T,ids,h=>by
  have a:=h t (by simp);simp only[iw];have d:=Cp ms T ids λu hu=>h u (by simp[hu])
  cases c:t.k<;>rw[c]at a<;>first|exact d|(cases a;done)
def Cq(ms:List Nat)(a:Nat->Bool)(T:List bF)(H:ad):∀(S:List bF),(∀t∈S,a t.i=X)->kz P ms a T H S=X
 |[],_=>rfl
 |t::S,h=>by
  simp only[kz,h t (by simp),Cq ms a T H S λt c=>h t (by simp[c]),Bool.true_or,Bool.and_true];cases t.k<;>rfl
def tR(ops:Array Oper):∀(is:List Nat) (ae:a_) (H:ad) (k:List fZ->ct->ad->O),ops.toList.all (mC ae.size)=X->
  pK P call ops is ae.get H k=(canRun P call ops is ae H).bind λp=>k (p.1.map (bF.c P)) p.2.1.get p.2.2
 |[],ae,H,k,_=>rfl
 |i::is,ae,H,k,h=>by
  simp only[pK,canRun];cases e:ops[i]? with
  |none=>rfl
  |some ai=>
   simp only[zq];cases l:gV P call ops ai ae H with
   |none=>rfl
   |some x=>
    have hm:mC ae.size ai=true:=by
     rw[List.all_eq_true]at h;exact h ai (by have:=Array.mem_of_getElem? e;simpa using this)
    obtain⟨a8,a,d⟩:=Cm hm x.val;simp only[Option.bind_some,a,Ew a];rw[tR ops is a8 _ _ (by rw[d];exact h)];cases canRun P call ops is a8 (x.heap H)with
    |none=>rfl
    |some p=>obtain⟨T,j,H1⟩:=p;rfl
def I6(ops:Array Oper)(d:Bool)(k:ct->ad->O)(h:ops.toList.all (mC ae.size)=X):vB P call ops d ae.get H k=(e3 P call ops d ae H).bind λp=>k p.1.get p.2:=by
 unfold vB e3;cases d with
 |false=>exact C7 ops k _ ae H h
 |true=>
  simp only
  rw[tR ops _ ae H _ h,tR ops _ ae H _ h];cases l:canRun P call ops (order ops) ae H with
  |none=>cases quiet ops<;>rfl
  |some p=>
   obtain⟨T,y,H1⟩:=p;have s:=(j2 l).1;have v:∀t∈T,t.i∈order ops:=λt a=>by rw[<-s];exact List.mem_map.2 ⟨t,a,rfl⟩
   have x:∀t∈T,(we ops).contains t.i=tied ops (dw ops) (order ops) t.i:=λt a=>by
    unfold we;rw[Bool.eq_iff_iff,List.contains_iff_mem,List.mem_filter];exact⟨λh=>h.2,λh=>⟨v t a,h⟩⟩
   simp only[Option.bind_some];cases c:quiet ops with
   |true=>
    have m:∀ai∈ops.toList,mJ ai.op=false:=λai w=>by
     unfold quiet at c;rw[List.all_eq_true]at c;simpa using c ai w
    have aE:∀t∈T,t.k.eG=false:=λt a=>by
     obtain⟨A,B,n⟩:=List.append_of_mem a;have e:=tS (P:=P) (call:=call) (by rw[<-n];exact l);cases q:t.k.eG with
     |false=>rfl
     |true=>
      have:=AR e.2.2.1 q;rw[m t.ai (by have:=Array.mem_of_getElem? e.1;simpa using this)]at this;cases this
    have o:∀t∈T,tied ops (dw ops) (order ops) t.i=true:=λt _=>by
     unfold tied;rw[List.all_eq_true];intro j _;cases u:ops[j]? with
     |none=>simp
     |some ai=>simp[m ai (by have:=Array.mem_of_getElem? u;simpa using this)]
    simp only[aZ,Cp (dw ops) T [] aE,Cq (dw ops) _ T H T o];rfl
   |false=>
    simp only[aT,ly,yc,EH _ _ _ T H T x];cases iw (dw ops) T []with
    |false=>rfl
    |true=>
     cases kz P (dw ops) (tied ops (dw ops) (order ops)) T H T<;>rfl
def iv(n:Nat):Code->Bool
 | .region _ ops _=>ops.toList.all (mC n)
 | .seq a b=>iv n a&&iv n b
 | .cond _ a b=>iv n a&&iv n b
 | .block _ b=>iv n b
 | .loop b=>iv n b
 |_=>X
def n8(r:Option (aL×a_×ad))(a:dT)(ks:List (Nat×dT))(c:dT):O:=match r with
 |some (.normal,ae,H)=>a ae.get H
 |some (.exit id,ae,H)=>look id ks ae.get H
 |some (.ret,ae,H)=>c ae.get H
 |none=>Z
def Dh{ops:Array Oper}:∀{os:List Oper} {ae a8:a_} {H H':ad},hb P call ops os ae H=D (a8,H')->a8.size=ae.size
 |[],ae,a8,H,H',h=>by
  simp only[hb,aU,bY]at h;rw[h.1]
 |ai::os,ae,a8,H,H',h=>by
  simp only[hb]at h;split at h
  ·cases h
  ·split at h
   ·cases h
   ·rename_i c a;rw[Dh h,a_.o8 a]
def De{ops:Array Oper}:∀{is:List Nat} {ae a8:a_} {H H':ad} {T:List bF},canRun P call ops is ae H=D (T,a8,H')->a8.size=ae.size
 |[],ae,a8,H,H',T,h=>by
  simp only[canRun,aU,bY]at h;rw[h.2.1]
 |i::is,ae,a8,H,H',T,h=>by
  simp only[canRun]at h;split at h
  ·cases h
  ·split at h
   ·cases h
   ·split at h
    ·cases h
    ·rename_i d a;split at h
     ·cases h
     ·rename_i c;simp only[aU,bY]at h;obtain⟨_,rfl,_⟩:=h;rw[De c,a_.o8 a]
def L9{ops:Array Oper}{d:Bool}{ae a8:a_}{H H':ad}(h:e3 P call ops d ae H=D (a8,H')):a8.size=ae.size:=by
 unfold e3 at h;split at h
 ·exact Dh h
 ·split at h
  ·cases h
  ·rename_i a;split at h
   ·cases h
   ·split at h
    ·cases h
    ·simp only[aU,bY]at h;obtain⟨rfl,_⟩:=h;exact De a
def Dg{f:a_->ad->Option (aL×a_×ad)}(a:∀ae H ex a8 H',f ae H=D (ex,a8,H')->a8.size=ae.size):
  ∀{n:Nat} {ae:a_} {H:ad} {ex:aL} {a8:a_} {H':ad},iter f n ae H=D (ex,a8,H')->a8.size=ae.size
 |0,_,_,_,_,_,h=>by cases h
 |n+1,ae,H,ex,a8,H',h=>by
  simp only[iter]at h;split at h
  ·rename_i d H1 c;rw[Dg a h,a _ _ _ _ _ c]
  ·exact a _ _ _ _ _ h
def Df{N:Nat}:∀(c:Code) {ae:a_} {H:ad} {ex:aL} {a8:a_} {H':ad},cx (e3 P call) N c ae H=D (ex,a8,H')->a8.size=ae.size:=by
 intro c
 induction c with
 |skip=>intro ae H ex a8 H' h;simp only[cx,aU,bY]at h;rw[h.2.1]
 |region id ops d=>
  intro ae H ex a8 H' h;simp only[cx]at h;split at h
  ·rename_i m H1 e;simp only[aU,bY]at h;obtain⟨_,rfl,_⟩:=h;exact L9 e
  ·cases h
 |seq a b j k=>
  intro ae H ex a8 H' h;simp only[cx]at h;split at h
  ·rename_i m H1 e;rw[k h,j e]
  ·exact j h
 |cond c a b j k=>
  intro ae H ex a8 H' h;simp only[cx]at h;split at h
  ·exact j h
  ·exact k h
  ·cases h
 |block id b i=>
  intro ae H ex a8 H' h;simp only[cx]at h;split at h
  ·rename_i n m H1 e;split at h<;>(simp only[aU,bY]at h;obtain⟨_,rfl,_⟩:=h;exact i e)
  ·exact i h
 |loop b i=>
  intro ae H ex a8 H' h;simp only[cx]at h;exact Dg (λ_ _ _ _ _ h=>i h) h
 |exit id=>intro ae H ex a8 H' h;simp only[cx,aU,bY]at h;rw[h.2.1]
 |ret=>intro ae H ex a8 H' h;simp only[cx,aU,bY]at h;rw[h.2.1]
 |label l=>intro ae H ex a8 H' h;simp only[cx,aU,bY]at h;rw[h.2.1]
 |goto l=>intro ae H ex a8 H' h;cases h
 |scope b i=>intro ae H ex a8 H' h;cases h
 |rangeFunc f o a b j k=>intro ae H ex a8 H' h;cases h
 |refuse y=>intro ae H ex a8 H' h;cases h
def AJ{f:a_->ad->Option (aL×a_×ad)}{b:dT->dT}{ks:List (Nat×dT)}{e:dT}(m:Nat)(aB:∀ae H ex a8 H',f ae H=D (ex,a8,H')->a8.size=ae.size)
  (d:∀(ae:a_) (H:ad) (a:dT),ae.size=m->b a ae.get H=n8 (f ae H) a ks e) (a:dT):∀(n:Nat) (ae:a_) (H:ad),ae.size=m->mK b n ae.get H=n8 (iter f n ae H) a ks e
 |0,ae,H,_=>rfl
 |n+1,ae,H,c=>by
  simp only[mK,iter];rw[d ae H _ c];cases h:f ae H with
  |none=>rfl
  |some x=>
   obtain⟨ex,i,H1⟩:=x;cases ex with
   |normal=>exact AJ m aB d a n i H1 (by rw[aB _ _ _ _ _ h];exact c)
   |exit id=>rfl
   |ret=>rfl
def x7{N:Nat}:∀(c:Code) (ae:a_) (H:ad) (e:dT) (ks:List (Nat×dT)) (i:dT),iv ae.size c=X->bp P call N c e ks i ae.get H=n8 (cx (e3 P call) N c ae H) e ks i:=by
 intro c
 induction c with
 |skip=>intro ae H e ks i _;rfl
 |region id ops d=>
  intro ae H e ks i h;simp only[bp,cx];rw[I6 ops d e h];cases e3 P call ops d ae H<;>rfl
 |seq a b m n=>
  intro ae H e ks i h;simp only[iv,Bool.and_eq_true]at h;simp only[bp,cx];rw[m ae H _ ks i h.1];cases he:cx (e3 P call) N a ae H with
  |none=>rfl
  |some x=>
   obtain⟨ex,j,H1⟩:=x;cases ex with
   |normal=>exact n j H1 e ks i (by rw[Df a he];exact h.2)
   |exit id=>rfl
   |ret=>rfl
 |cond c a b m n=>
  intro ae H e ks i h;simp only[iv,Bool.and_eq_true]at h;simp only[bp,cx,j4];unfold aW;cases b4 ae c with
  |none=>rfl
  |some v=>
   cases v<;>try rfl
   rename_i t;cases t
   ·exact n ae H e ks i h.2
   ·exact m ae H e ks i h.1
 |block id b k=>
  intro ae H e ks i h;simp only[bp,cx];rw[k ae H e _ i h];cases he:cx (e3 P call) N b ae H with
  |none=>rfl
  |some x=>
   obtain⟨ex,j,H1⟩:=x;cases ex with
   |normal=>rfl
   |ret=>rfl
   |exit o=>
    simp only[n8,look];by_cases hid:o=id
    ·subst hid;simp[Nat.beq_refl]
    ·have p:Nat.beq o id=false:=by rw[<-Bool.not_eq_true,Nat.beq_eq];exact hid
     rw[p,if_neg hid];rfl
 |loop b k=>
  intro ae H e ks i h;simp only[bp,cx];exact AJ ae.size (λ_ _ _ _ _ h=>Df b h) (λj H1 e q=>k j H1 e ks i (by rw[q];exact h)) e N ae H rfl
 |exit id=>intro ae H e ks i _;rfl
 |ret=>intro ae H e ks i _;rfl
 |label l=>intro ae H e ks i _;rfl
 |goto l=>intro ae H e ks i _;rfl
 |scope b k=>intro ae H e ks i _;rfl
 |rangeFunc f s a b m n=>intro ae H e ks i _;rfl
 |refuse y=>intro ae H e ks i _;rfl
def sc{ae:a_}{H:ad}:∀(rs:List ResultVar) (k:List aa->O),oH P H ae.get rs k=(gS P ae H rs).bind k
 |[],k=>rfl
 | .tmp t::rs,k=>by
  simp only[oH,gS,n5];rw[sc rs];cases gS P ae H rs<;>rfl
 | .cell a t::rs,k=>by
  simp only[oH,gS,n5];cases an P H t (ae.get a)with
  |none=>rfl
  |some v=>
   simp only[Option.bind_some];rw[sc rs];cases gS P ae H rs<;>rfl
def xf(n:Nat)(args:List aa):(a_.enter n args).get=kF args:=by
 have h:∀(args:List aa) (d:Nat),kF args d=(args[d]?).getD (.tuple []):=by
  intro args
  induction args with
  |nil=>intro d;cases d<;>rfl
  |cons v e c=>
   intro d;cases d with
   |zero=>rfl
   |succ d=>simpa [kF]using c d
 funext d
 rw[h];unfold a_.get a_.enter;simp only[vd];by_cases a:d<args.length
 ·rw[if_pos af];simp[a]
 ·rw[if_neg af,bm.pX];simp[a]
def GQ{f:Nat}{args:List aa}{H:ad}{fn:Func}{c:Code}{M:Nat}{r:aa×ad}(i:ay f args H=Z)(l:P.funcs[f]? =D fn)(k:fn.body=D c)(m:iv fn.ntmps c=X)(n:Nat.ble args.length fn.ntmps=X)
  (h:bp P (aC P ay) M c (kQ P fn.results.toList) [] (kQ P fn.results.toList) (kF args) H=D r):aC P ay f args H=D r:=by
 have aB:(a_.enter fn.ntmps args).size=fn.ntmps:=by have:=Nat.le_of_ble_eq_true n;simp only[a_.enter];omega
 rw[<-xf fn.ntmps,x7 c _ _ _ _ _ (by rw[aB];exact m)]at h;unfold n8 at h;have fin:∀(ae:a_) (H':ad),kQ P fn.results.toList ae.get H'=D r->∃d,gS P ae H' fn.results.toList=D d/\r=(lq d,H'):=by
  intro ae H' a;unfold kQ at a;rw[sc]at a;cases j:gS P ae H' fn.results.toList with
  |none=>rw[j]at a;cases a
  |some d=>rw[j]at a;exact⟨d,rfl,(Option.some.inj a).symm⟩
 split at h
 ·rename_i ae H' he;obtain⟨d,e,rfl⟩:=fin ae H' h;exact yk i l k he (λid=>by intro a;cases a) e
 ·cases h
 ·rename_i ae H' he;obtain⟨d,e,rfl⟩:=fin ae H' h;exact yk i l k he (λid=>by intro a;cases a) e
 ·cases h
end
end Go.b9
namespace Go
def a6:Code->Code
 | .seq a _=>a
 | .cond _ a _=>a
 | .block _ b=>b
 | .loop b=>b
 |c=>c
def ak:Code->Code
 | .seq _ b=>b
 | .cond _ _ b=>b
 |c=>c
def Code.test:Code->Operand
 | .cond c _ _=>c
 |_=> .tmp 0
def Code.num:Code->Nat
 | .block id _=>id
 | .exit id=>id
 |_=>0
def Code.HL:Code->Bool| .seq _ _=>X|_=>U
def Code.HH:Code->Bool| .cond _ _ _=>X|_=>U
def Code.HG:Code->Bool| .block _ _=>X|_=>U
def Code.HK:Code->Bool| .loop _=>X|_=>U
end Go
namespace Go.b9
section
variable {P:Program}{call:az}{N:Nat}{ik gz:dT}{gA:List (Nat×dT)}
def aP{c:Code}{k T:dT}(d:c.HL=X)(h:∀ae H,bp P call N (ak c) ik gA gz ae H=k ae H)(e:∀ae H,bp P call N (a6 c) k gA gz ae H=T ae H):
  ∀ae H,bp P call N c ik gA gz ae H=T ae H:=by
 cases c<;>first|cases d|skip
 rename_i a b;intro ae H;rw[<-e];show bp P call N a (λae H=>bp P call N b ik gA gz ae H) gA gz ae H=_;rw[show(λae H=>bp P call N b ik gA gz ae H)=k from funext λae=>funext λH=>h ae H];rfl
def dt{c:Code}{A B:dT}(e:c.HH=X)(a:∀ae H,bp P call N (a6 c) ik gA gz ae H=A ae H)(d:∀ae H,bp P call N (ak c) ik gA gz ae H=B ae H):
  ∀ae H,bp P call N c ik gA gz ae H=aW (db ae c.test) (A ae H) (B ae H):=by
 cases c<;>first|cases e|skip
 intro ae H;rw[<-a,<-d];rfl
def dc{c:Code}{T:dT}(d:c.HG=X)(a:∀ae H,bp P call N (a6 c) ik ((c.num,ik)::gA) gz ae H=T ae H):∀ae H,bp P call N c ik gA gz ae H=T ae H:=by
 cases c<;>first|cases d|skip
 intro ae H;rw[<-a];rfl
def ei{c:Code}{k:Nat->dT}(e:c.HK=X)(d:∀ae H,k 0 ae H=Z)(aB:∀n ae H,bp P call N (a6 c) (k n) gA gz ae H=k (n+1) ae H):∀ae H,bp P call N c ik gA gz ae H=k N ae H:=by
 cases c<;>first|cases e|skip
 rename_i b;have key:∀n ae H,mK (λa ae H=>bp P call N b a gA gz ae H) n ae H=k n ae H:=by
  intro n
  induction n with
  |zero=>intro ae H;exact(d ae H).symm
  |succ n h=>
   intro ae H;rw[<-aB n ae H];show bp P call N b (λae H=>mK _ n ae H) gA gz ae H=_;rw[show(λae H=>mK (λa ae H=>bp P call N b a gA gz ae H) n ae H)=k n from funext λae=>funext λH=>h ae H];rfl
 intro ae H;exact key N ae H
def aJ(c:Code):∀ae H,bp P call N c ik gA gz ae H=bp P call N c ik gA gz ae H:=λ_ _=>rfl
def j(r:Option aa)(k:aa->O):O:=match r with
 |some v=>k v
 |none=>Z
def aH(H:ad)(r:O)(k:aa->ad->O):O:=match r with
 |some (v,H')=>bif decide (H.next<=H'.next)then k v H' else Z
 |none=>Z
def a7(H:ad)(r:Option ad)(k:ad->O):O:=aH H (r.bind λH'=>D (.tuple [],H')) λ_ H'=>k H'
def bS(H:ad)(r:Option (aa×bO))(k:aa->ad->O):O:=match r with
 |some (v,b)=>k v (H.push b)
 |none=>Z
def cf(H:ad)(cs:List aa)(k:aa->ad->O):O:=k (.ptr H.next 0 0) (H.push (.row U cs.length [cs]))
def bs(fn:Func):Code:=match fn.body with
 |some c=>c
 |none=> .skip
def bg(P:Program)(b:Builtin)(ts:List TypeId)(a:List aa)(H:ad)(k:aa->O):O:=match bZ P .empty b ts a with
 |some v=>k v
 |none=>(bZ P H b ts a).bind k
def pk(P:Program)(s d:TypeId)(v:aa)(H:ad)(k:aa->O):O:=match lp P s d v with
 |some v=>k v
 |none=>(mo P H s d v).bind k
def ca(v:aa)(q:K->O):O:=q (.pure v)
def bz(r:Option aa)(q:K->O):O:=r.bind λv=>q (.pure v)
def qr(r:Option aa)(q:K->O):O:=r.bind λv=>q (.read v)
def aQ(b:aa)(want:Bool)(H:ad)(m:(K->O)->O)(k:aa->ad->O):O:=eZ b want m λx=>k x.val (x.heap H)
