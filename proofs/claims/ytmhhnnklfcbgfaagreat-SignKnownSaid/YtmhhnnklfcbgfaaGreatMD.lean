/-
  Texts of one proof, laid together: Hv16 Hv18 Hv17 Hv21.
-/
import Derived.Test.YtmhhnnklfcbgfaaGreatMC
set_option linter.unusedVariables false
set_option linter.unusedSimpArgs false
set_option linter.defProp false
open Option renaming some→D,none→Y
open Bool renaming true→V,false→U
namespace Go.bN
section
variable {E:Env}{P:Program}{call:ai}{ops:Array Oper}{ord:List Nat}{bI bw:aX}{ba bF:ae}{T:List a_}{ρ0:Env}{w0:World}{Q:Exit->Act->World->Prop}
def Ctx.uniq(c:Ctx P call ops ord bI ba T bw bF){A B:List a_}{t:a_}(h:T=A++t::B){u:a_}(hu:u∈T)(he:u.i=t.i):u=t:=by
 rw[h]at hu;rcases List.mem_append.1 hu with hu|hu
 ·exact absurd he (c.before h hu).1
 ·rcases List.mem_cons.1 hu with rfl|hu
  ·rfl
  ·exact absurd he.symm (c.after h hu).1
def rF(ba:ae)(T:List a_)(N:Nat)(ρ0:Env)(w0:World)(L:Nat->Bool)(ρ:Env)(w:World)(T1 T2:List a_):Prop:=T=T1++T2/\(∀t∈T1,t.k.b7=V->L t.i=V)/\(∀t∈T2,(∃v H,t.k= .br v H)->L t.i=U)/\ca ρ0 ba w0 N (bW L T2 (bx T1 ba)) ρ (bx T1 ba) w
def Ctx.next(c:Ctx P call ops ord bI ba T bw bF){A B:List a_}{t:a_}(h:T=A++t::B){b:Array Bool}(C:b.size=ops.size)(s:hl ops (bC b))(H:bC b t.i=U)
  (hw:dG (bC b) t.aw) {ρ:Env} {f:aX} {a:Act} {x:Value} {w:World} (M:bY ρ f a) (E:f.size=bI.size) (N:∀d,f.get d=b_ (bC b) d T (bI.get d)) (L:a1 ρ t.k.val x) {T1 T2:List a_}
  (m:rF ba T bF.next ρ0 w0 (bC (b.setIfInBounds t.i V)) ρ w T1 T2):Inv ops bI ba T bF.next ρ0 w0 (b.setIfInBounds t.i V) (a.put t.aw.dst x) w:=by
 obtain⟨z,_,_,F⟩:=c.at h;have v:t.i<b.size:=by rw[C];exact(Array.getElem?_eq_some_iff.1 z).1
 have q:bC (b.setIfInBounds t.i V) t.i=true:=by rw[eS v];simp
 have g:∀j,j≠t.i->bC (b.setIfInBounds t.i V) j=bC b j:=λj o=>by rw[eS v];simp[o]
 have y:∀j,bC b j=V->bC (b.setIfInBounds t.i V) j=true:=λj o=>by
  by_cases e:j=t.i
  ·rw[e];exact q
  ·rw[g j e];exact o
 have K:∃aU,f.put t.aw.dst t.k.val=D aU:=by
  cases G:t.aw.dst with
  |none=>exact⟨f,rfl⟩
  |some d=>
   have:=F d G;exact⟨{f with t:=a6.put t.k.val (d+1) f.t d},by simp only[aX.put];rw[if_pos (by rw[E];exact this)]⟩
 obtain⟨aU,l⟩:=K;refine⟨by simpa using C,λi aw n u e he r=> ?_,ρ,T1,T2,m.1,m.2.1,m.2.2.1,m.2.2.2,aU,M.put l L,by rw[aX.size_put l,E],λd=> ?_⟩
 ·by_cases p:i=t.i
  ·subst p;rw[z]at n;cases n;exact y _ (hw e he r)
  ·rw[g i p]at u;exact y _ (s i aw n u e he r)
 ·rw[aX.gC l d,c.zr h s H q g d,N d]
def Ctx.norm(c:Ctx P call ops ord bI ba T bw bF){N:Nat}{L:Nat->Bool}{ρ:Env}{w:World}:∀{T2 T1:List a_},rF ba T N ρ0 w0 L ρ w T1 T2->
  ∃q j,rF ba T N ρ0 w0 L ρ w q j/\∀u e,j=u::e->u.k.b7=V/\L u.i=U
 |[],T1,m=>⟨T1,[],m,λu e h=>by cases h⟩
 |u::T2,T1,m=>by
  by_cases f:u.k.b7=V/\L u.i=U
  ·exact⟨T1,u::T2,m,λy e h=>by simp only[List.cons.injEq]at h;rw[<-h.1];exact f⟩
  ·obtain⟨l,r,n,s⟩:=m;have p:=gu c.cq;rw[l]at p;have t:=(b9.append p).2;have cE:=ca.turns (zC:=[u]) (zD:=T2) (L:=L) t (λv a d=>by
    have:v=u:=by simpa using a
    subst this;have g:L v.i=true:=by
     cases a:L v.i with
     |true=>rfl
     |false=>exact absurd ⟨d,a⟩ f
    refine⟨g,?_⟩;cases o:v.k with
    |new x b=>exact⟨x,b,rfl⟩
    |br x H=>rw[n v (by simp) ⟨x,H,o⟩]at g;cases g
    |_=>rw[o]at d;cases d) s
   rw[<-dL]at cE;refine c.norm (T2:=T2) (T1:=T1++[u]) ⟨by rw[l];simp,λv a d=> ?_,λv a=>n v (by simp[a]),cE⟩;rcases List.mem_append.1 a with a|a
   ·exact r v a d
   ·have:v=u:=by simpa using a
    subst this;cases a:L v.i with
    |true=>rfl
    |false=>exact absurd ⟨d,a⟩ f
def sH{L:Nat->Bool}{u:a_}{v:aa}{b:bk}(hu:u.k= .new v b)(e:L u.i=V):∀{zC zD:List a_} {H:ae},b9 H (zC++u::zD)->bW L (zC++u::zD) H (bx zC H).next=D b
 |[],zD,H,_=>by simp[bW,hu,e,bx]
 |c::zC,zD,H,hm=>by
  have a:=sH hu e (zC:=zC) (zD:=zD) hm.2;have hle:∀{zC:List a_} {H:ae},b9 H zC->H.next<=(bx zC H).next:=by
   intro zC
   induction zC with
   |nil=>intro H _;exact bM _
   |cons x zC l=>intro H h;exact Nat.le_trans h.1 (l h.2)
  by_cases g:∃v b,c.k= .new v b
  ·obtain⟨m,b5,f⟩:=g;have d:=hle (b9.append hm.2).1;have j:=hm.2;rw[f]at d j a;simp only[K.heap,ae.dO]at d a;simp only[List.cons_append,bW,f,bx,K.heap];rw[if_neg bj];exact a
  ·rw[List.cons_append,gL λv b h=>g ⟨v,b,h⟩,bx];exact a
def sk{l:Nat}:∀{zC:List a_} {H:ae},(∀x∈zC,eW x.k=V)->l<H.next->(bx zC H).get l=H.get l
 |[],H,_,_=>rfl
 |c::zC,H,a,g=>by
  have e:=a c (by simp);rw[bx];cases f:c.k with
  |new v b=>
   rw[sk (λx d=>a x (by simp[d])) (by simp only[K.heap,ae.dO];omega)];exact ae.cp bj
  |br v H'=>rw[f]at e;cases e
  |_=>exact sk (λx d=>a x (by simp[d])) g
def Rel.Gp{ρ:Env}{H:ae}{w:World}{b:bk}(h:b≠ .dead->∃loc,ρ H.next=D loc/\dd ρ w loc b):Rel ρ (H.push b).only w where
 row l ro esz els a:=by
  obtain⟨rfl,rfl⟩:=ae.hQ a;obtain⟨loc,c,d⟩:=h (by intro e;cases e);exact⟨loc,c,d⟩
 map l es a:=by
  obtain⟨rfl,rfl⟩:=ae.hQ a;obtain⟨loc,c,d⟩:=h (by intro e;cases e);exact⟨loc,c,d⟩
 bS l t esz els a:=by
  obtain⟨rfl,rfl⟩:=ae.hQ a;obtain⟨loc,c,d⟩:=h (by intro e;cases e);exact⟨loc,c,d⟩
 apart l i loc k c d j _ _:=by
  exfalso;have f:∃x,(H.push b).only.get l=D x:=by
   unfold ae.rw at c;cases a:(H.push b).only.get l with
   |none=>simp[a]at c
   |some x=>exact⟨x,rfl⟩
  have g:∃x,(H.push b).only.get i=D x:=by
   unfold ae.live at d;cases a:(H.push b).only.get i with
   |none=>simp[a]at d
   |some x=>exact⟨x,rfl⟩
  obtain⟨x,f⟩:=f;obtain⟨y,g⟩:=g;exact j ((ae.hQ f).1.trans (ae.hQ g).1.symm)
def count_set{n i fuel:Nat}{a:Array Bool}(d:i<a.size)(g:i<n)(f:bC a i=U)(h:(List.range n).countP (λj=> !bC a j)<=fuel+1):(List.range n).countP (λj=> !bC (a.setIfInBounds i V) j)<=fuel:=by
 have c:bC (a.setIfInBounds i V) i=true:=by rw[eS d];simp
 have:=wz (p:=λj=> !bC a j) (q:=λj=> !bC (a.setIfInBounds i V) j) (i:=i) (l:=List.range n) (by simpa using g)
  (λj b=>by
   by_cases e:j=i
   ·rw[e,c]at b;cases b
   ·rw[eS d,if_neg e]at b;exact b) (by simp[f]) (by simp[c])
 omega
def Ctx.step(c:Ctx P call ops ord bI ba T bw bF)(bv:bm E P call)(bq:E.le ρ0){q:Array Bool}{a:Act}{w:World}(p:Inv ops bI ba T bF.next ρ0 w0 q a w){i:Nat}{aw:Oper}(ah:ops[i]? =D aw)(aa:bC q i=U)(hw:dG (bC q) aw)(bb:i<ops.size)
  {c9:Act->World->Prop} (aN:∀bX aI,Inv ops bI ba T bF.next ρ0 w0 (q.setIfInBounds i V) bX aI->c9 bX aI):wpOp P ops Q i c9 a w:=by
 have bd:=c.sJ;simp only[fG,Bool.and_eq_true,List.all_eq_true,List.mem_range]at bd;have bc:=bd.1 i bb;rw[List.contains_iff_mem,<-(dy c.cq).1,List.mem_map]at bc;obtain⟨t,S,rfl⟩:=bc;have bN:=c.mem S;obtain rfl:t.aw=aw:=Option.some.inj (bN.symm.trans ah);obtain⟨ρ,T1,T2,F,ap,aq,m,aW,af,aV,aH⟩:=p.mid;have be:t.i<q.size:=by rw[p.size];exact bb
 have aE:bC (q.setIfInBounds t.i V) t.i=true:=by rw[eS be];simp
 have M:∀j,j≠t.i->bC (q.setIfInBounds t.i V) j=bC q j:=λj bG=>by rw[eS be];simp[bG]
 obtain⟨aJ,aC,r⟩:=List.append_of_mem S;have a9:∀d∈t.aw.looksAt ops,aW.get d=t.C.get d:=λd bz=>by rw[aH d];exact c.looks r p.closed hw aa d bz
 have aG:=z8 a9;have bO:Region.wanted t.aw (yielded ops a.tmps)=c2 ops t.C t.aw:=(wg af t.aw).trans (Aa a9);unfold wpOp;rw[ah];simp only[bO];have still:t.k.b7=U->∀x,a1 ρ t.k.val x->c9 (a.put t.aw.dst x) w:=by
  intro n x o;refine aN _ _ (c.next r p.size p.closed aa hw af aV aH o (T1:=T1) (T2:=T2) ⟨F,λu hu ad=> ?_,λu hu ai=> ?_,?_⟩)
  ·have:=ap u hu ad;by_cases e:u.i=t.i
   ·rw[e];exact aE
   ·rw[M _ e];exact this
  ·have al:u.i≠t.i:=λe=>by
    have:=c.uniq r (by rw[F];simp[hu]) e;subst this;obtain⟨v,H,z⟩:=ai;rw[z]at n;cases n
   rw[M _ al];exact aq u hu ai
  ·rw[hS (L':=bC q) λu hu v b z=>M _ λe=>by
    have:=c.uniq r (by rw[F];simp[hu]) e;subst this;rw[z]at n;cases n]
   exact m
 rcases gG (c.at r).2.2.1 with⟨am,z⟩|⟨am,z⟩
 ·rw[am];simp only[if_true];refine .inl ?_;have aY:t.k.b7=V->∃zC zD,T2=zC++t::zD:=λn=>by
   rw[F]at S;rcases List.mem_append.1 S with S|S
   ·have:=ap t S n;rw[aa]at this;cases this
   ·exact List.append_of_mem S
  have ak:=gu c.cq;cases f:t.k with
  |skip=>rw[f]at z;exact z.elim
  |pure v=>
   rw[f]at z;have R:=ee.congr (λx o=>(aG x o).symm) z;exact yj R af λx o=>still (by rw[f];rfl) x (by rw[f];exact o)
  |read v=>
   obtain⟨aD,aL,⟨f1,f2,f3,f4⟩,f5⟩:=c.norm (ρ0:=ρ0) (w0:=w0) (N:=bF.next) (L:=bC q) (ρ:=ρ) (w:=w) (T2:=T2) (T1:=T1) ⟨F,ap,aq,m⟩;have aF:∃aK,Rel ρ aK w/\cC P t.aw.op t.C aK=D v:=by
    rcases yY f c.Vb S with bB|bL
    ·
      refine⟨_,f4.rel,?_⟩;have a6:cC P t.aw.op t.C (bx aJ ba)=D v:=by
       rcases gG (c.at r).2.2.1 with⟨_,a5⟩|⟨o,_⟩
       ·rw[f]at a5;exact a5
       ·rw[am]at o;cases o
      have a4:∀u∈T,u.k.b7=V->u.i≠t.i/\(bD (bA ops) u.i t.i=V\/bD (bA ops) t.i u.i=V):=λu hu n=>by
       have al:u.i≠t.i:=λe=>by
        have:=c.uniq r hu e;subst this;rw[f]at n;cases n
       obtain⟨b_,cb,g⟩:=List.append_of_mem hu;refine⟨al,Un bB ?_ al (c.at g).1 (xQ (c.at g).2.2.1 n)⟩;rw[<-(dy c.cq).1,List.mem_map];exact⟨u,hu,rfl⟩
      have bJ:∀u∈aJ,u.k.b7=V->bC q u.i=true:=λu hu n=>by
       rcases(a4 u (by rw[r];simp[hu]) n).2 with g|g
       ·exact dU p.closed _ _ ah hw _ g
       ·have:=(c.before r hu).2.1;rw[g]at this;cases this
      have bE:∀u∈aC,u.k.b7=V->bC q u.i=false:=λu hu n=>by
       have bf:u∈T:=by rw[r];simp[hu]
       rcases(a4 u bf n).2 with g|g
       ·have:=(c.after r hu).2.1;rw[g]at this;cases this
       ·cases ab:bC q u.i with
        |false=>rfl
        |true=>
         have az:=c.mem bf;have:=dU p.closed _ _ az (p.closed _ _ az ab) _ g;rw[aa]at this;cases this
      have aU:aD++aL=aJ++t::aC:=by rw[<-f1,<-r]
      rcases List.append_eq_append_iff.1 aU with⟨bX,av,aO⟩|⟨aM,aj,W⟩
      ·cases bX with
       |nil=>rw[List.append_nil]at av;rw[<-av];exact a6
       |cons u bk=>
        obtain⟨O,G⟩:=f5 u (bk++t::aC) aO;have:=bJ u (by rw[av];simp) O;rw[G]at this;cases this
      ·have bM:∀(aB:List a_) (H:ae),(∀u∈aB,u.k.b7=U)->bx aB H=H:=by
        intro aB
        induction aB with
        |nil=>intro H _;rfl
        |cons u aB bQ=>intro H aZ;rw[bx,nv (aZ u (by simp))];exact bQ H λu hu=>aZ u (by simp[hu])
       rw[aj,dL,bM aM _ ?_]
       ·exact a6
       ·intro u hu;cases n:u.k.b7 with
        |false=>rfl
        |true=>
         have g:=f2 u (by rw[aj];simp[hu]) n;have au:u∈t::aC:=by rw[W];simp[hu]
         rcases List.mem_cons.1 au with rfl|au
         ·rw[f]at n;cases n
         ·have:=bE u au n;rw[g]at this;cases this
    ·rcases Tr bL with bg|bK
     rotate_left
     ·obtain⟨A,u,B,b6,b,O,G,bl,bn,bo⟩:=xV bK;refine⟨_,Rel.Gp λax=> ?_,yq bo⟩;have ab:=dU p.closed _ _ ah hw _ bl;have aU:aD++aL=A++u::B:=by rw[<-f1,<-O]
      rcases List.append_eq_append_iff.1 aU with⟨bX,av,aO⟩|⟨aM,aj,W⟩
      ·have aS:=f4.dp (bx A ba).next b (by
        rw[f1]at ak;have s:=(b9.append ak).2;rw[aO]at s ⊢;rw[av,dL];exact sH G ab s)
       obtain⟨_,_,_,loc,aA,ao,_⟩:=aS;exact⟨loc,aA,ao⟩
      ·cases aM with
       |nil=>
        have aS:=f4.dp (bx A ba).next b (by
         rw[f1]at ak;have s:=(b9.append ak).2;rw[List.nil_append]at W;rw[List.append_nil]at aj;rw[<-W]at s ⊢;rw[aj]at s ⊢;exact sH (zC:=[]) G ab s)
        obtain⟨_,_,_,loc,aA,ao,_⟩:=aS;exact⟨loc,aA,ao⟩
       |cons x cc=>
        simp only[List.cons_append,List.cons.injEq]at W;obtain⟨rfl,W⟩:=W;have aP:(bx aD ba).get (bx A ba).next=D b:=by
         rw[aj,dL,bx,G];rw[sk (λx o=>bn x (by rw[W];simp[o])) (by simp[K.heap])];exact ae.cJ _ b
        cases b with
        |row ro esz els=>exact f4.rel.row _ _ _ _ aP
        |map es=>exact f4.rel.map _ _ aP
        |bS t esz els=>exact f4.rel.bS _ _ _ _ aP
        |dead=>exact absurd rfl ax
     refine⟨_,f4.rel,?_⟩;rw[show cg (bA ops) (dq P t.aw.op t.C v) t.i T ba=cg (bA ops) (dq P t.aw.op t.C v) t.i (aD++aL) ba by rw[<-f1]]at bg;exact yq (vF bg (λu hu ad=>by
      cases ax:bD (bA ops) t.i u.i with
      |false=>rfl
      |true=>
       have az:=c.mem (t:=u) (by rw[f1];simp[hu]);have:=dU p.closed _ _ az (p.closed _ _ az (f2 u hu ad)) _ ax;rw[aa]at this;cases this) (λu bi hu=>by
      obtain⟨O,G⟩:=f5 u bi hu;refine⟨O,?_⟩;cases ax:bD (bA ops) u.i t.i with
      |false=>rfl
      |true=>
       have:=dU p.closed _ _ ah hw _ ax;rw[G]at this;cases this))
   obtain⟨aK,bP,aF⟩:=aF;rw[<-wa aG]at aF;exact yr bP aF af λx o=>still (by rw[f];rfl) x (by rw[f];exact o)
  |new v b=>
   obtain⟨zC,zD,y⟩:=aY (by rw[f];rfl);have g:T=(T1++zC)++t::zD:=by rw[F,y];simp
   have aQ:=(c.at g).2.2.1;rcases gG aQ with⟨_,ay⟩|⟨o,_⟩
   ·rw[f]at ay;have R:=ee.congr (λx o=>(aG x o).symm) ay;have s:b9 (bx T1 ba) (zC++t::zD):=by
     have:=ak;rw[F,y]at this;exact(b9.append this).2
    obtain⟨aA,ao⟩:=yh (L:=bC q) (L':=bC (q.setIfInBounds t.i V)) f aa aE s
     (λu hu=>(M _ (c.before g (by simp[hu])).1).symm) (λu hu=>(M _ (Ne.symm (c.after g hu).1)).symm)
    have a3:(bx T1 ba).next<=(bx zC (bx T1 ba)).next:=(b9.append s).1.le
    have a8:(bx zC (bx T1 ba)).next<bF.next:=by
     have au:=(b9.append s).2;have aX:=au.2.le;rw[f]at aX;have bp:bF=bx zD (K.heap (bx zC (bx T1 ba)) (.new v b)):=by
      rw[(dy c.cq).2.1,g,dL,dL,bx,f]
     rw[bp];simp only[K.heap,ae.dO]at aX ⊢;omega
    rw[y]at m;have bH:dw P t.aw.op aW (bx zC (bx T1 ba)).next=D (v,b):=by rw[<-dL];exact R
    refine xW bH af (m.fresh _ a3 a8 ao) λx aI b8 loc bT bh bZ b0 b1 b2 b3 b4 b5 bU bV bY=> ?_
    have cE:=m.early a3 a8 ao bh bZ b0 b1 b2 b3 b4 b5 bU bV bY;rw[<-aA]at cE;refine aN _ _ (c.next r p.size p.closed aa hw (af.mono bh) aV aH (by rw[f];exact bT) (T1:=T1) (T2:=zC++t::zD) ⟨by rw[F,y],λu hu ad=> ?_,λu hu ai=> ?_,cE⟩)
    ·have:=ap u hu ad;by_cases e:u.i=t.i
     ·rw[e];exact aE
     ·rw[M _ e];exact this
    ·have al:u.i≠t.i:=λe=>by
      have:=c.uniq r (by rw[F,y];simp at hu ⊢;exact .inr hu) e;subst this;obtain⟨b6,H,R⟩:=ai;rw[f]at R;cases R
     rw[M _ al];exact aq u (by rw[y];exact hu) ai
   ·rw[am]at o;cases o
  |br v H'=>
   obtain⟨zC,zD,y⟩:=aY (by rw[f];rfl);have g:T=(T1++zC)++t::zD:=by rw[F,y];simp
   have aQ:=(c.at g).2.2.1;rcases gG aQ with⟨_,ay⟩|⟨o,_⟩
   ·rw[f]at ay;have R:=ee.congr (λx o=>(aG x o).symm) ay;have s:b9 (bx T1 ba) (zC++t::zD):=by
     have:=ak;rw[F,y]at this;exact(b9.append this).2
    have a2:=c.br;rw[g]at a2;have a0:=(ni a2 f).2;rw[y]at m;have an:=ca.turns (zC:=zC) (zD:=t::zD) (L:=bC q) s (λu hu n=>by
     have ab:=dU p.closed _ _ ah hw _ (a0 u (by simp[hu]) n);refine⟨ab,?_⟩;cases a7:u.k with
     |new x b=>exact⟨x,b,rfl⟩
     |br x H=>rw[aq u (by rw[y];simp[hu]) ⟨x,H,a7⟩]at ab;cases ab
     |_=>rw[a7]at n;cases n) m
    rw[gL (λv b h=>by rw[f]at h;cases h),f]at an;simp only[K.heap]at an;have aR:b9 H' zD:=by have:=(b9.append s).2.2;rw[f]at this;exact this
    have bt:bF=bx zD H':=by rw[(dy c.cq).2.1,g,dL,bx,f];rfl
    have bu:H'.next<=bF.next:=by rw[bt];exact aR.le
    rw[dL]at R;refine wE (H:=bx zC (bx T1 ba)) (H':=H') bv an.rel ⟨λl O G=>an.fresh l O bj ?_,Env.le_trans bq an.le⟩ R af λx aI b8 O G=> ?_
    ·cases aT:bW (bC q) zD H' l with
     |none=>rfl
     |some b=>have:=hT aR aT;omega
    ·have bR:=an.step G bu (λl b aT=>hT aR aT);refine aN _ _ (c.next r p.size p.closed aa hw (af.mono G.le) aV aH (by rw[f];exact O) (T1:=T1++zC++[t]) (T2:=zD) ⟨by rw[g];simp,λu hu ad=> ?_,λu hu ai=> ?_,?_⟩)
     ·by_cases e:u.i=t.i
      ·rw[e];exact aE
      ·rw[M _ e];simp only[List.mem_append,List.mem_singleton]at hu;rcases hu with(hu|hu)|rfl
       ·exact ap u hu ad
       ·exact dU p.closed _ _ ah hw _ (a0 u (by simp[hu]) ad)
       ·exact absurd rfl e
     ·rw[M _ (Ne.symm (c.after g hu).1)];exact aq u (by rw[y];simp[hu]) ai
     ·have bs:bx (T1++zC++[t]) ba=H':=by rw[dL,bx,f];rfl
      rw[bs,hS (L':=bC q) λu hu v b z=>M _ (Ne.symm (c.after g hu).1)];exact bR
   ·rw[am]at o;cases o
 ·rw[am];simp only[Bool.false_eq_true,if_false];exact still (by rw[z];rfl) undef (by rw[z];exact .tuple [] [] .nil)
def Ctx.any(c:Ctx P call ops ord bI ba T bw bF)(s:bm E P call)(q:E.le ρ0)(r:∀ρ a w,bY ρ bw a->Step ρ0 ba w0 ρ bF w->Q .normal a w):
  ∀(fuel:Nat) (b:Array Bool) (a:Act) (w:World),Inv ops bI ba T bF.next ρ0 w0 b a w->(List.range ops.size).countP (λj=> !bC b j)<=fuel->wpAny P .any ops Q fuel b a w:=by
 have n:∀b a w,Inv ops bI ba T bF.next ρ0 w0 b a w->Region.ready .any ops b=[]->Q .normal a w:=by
  intro b a w d e;obtain⟨ρ,l,f⟩:=c.final d (c.vU d.size e);exact r ρ a w l f
 intro fuel
 induction fuel with
 |zero=>
  intro b a w d m;have e:Region.ready .any ops b=[]:=by
   rw[List.eq_nil_iff_forall_not_mem];intro i g;obtain⟨aw,l,f,v,p⟩:=eY g d.size;have x:0<(List.range ops.size).countP (λj=> !bC b j):=List.countP_pos_iff.2 ⟨i,by simpa using p,by simp[f]⟩;omega
  exact⟨e,n _ _ _ d e⟩
 |succ fuel u=>
  intro b a w d m;refine⟨λe=>n _ _ _ d e,λi g=> ?_⟩;obtain⟨aw,t,o,hw,k⟩:=eY g d.size;exact c.step s q d t o hw k λbX y h=>u _ _ _ h (count_set (by rw[d.size];exact k) k o m)
def Vd{id:Nat}{a:Act}{w:World}(hm:P.follows .mixedOrders=V)(p:bm E P call)(c:Ctx P call ops ord bI ba T bw bF)(o:Rel ρ0 ba w)(g:cS E ρ0 ba.next bF.next)(s:bY ρ0 bI a)
  (n:∀ρ a f,bY ρ bw a->Step ρ0 ba w ρ bF f->Q .normal a f):(Code.region id ops V).wp P Q a w:=by
 have e:∀j,bC (Array.replicate ops.size U) j=false:=λj=>by
  unfold bC;rw[Array.getD_eq_getD_getElem?];by_cases h:j<ops.size<;>simp[h]
 refine wp_region_any hm (c.any (ρ0:=ρ0) (w0:=w.drew) p g.le (λρ a f m b=>n ρ a f m ?_) _ _ _ _ ⟨by simp,λi aw _ q=>absurd q (by rw[e];simp),ρ0,[],T,rfl,by simp,λt _ _=>e _,?_,bI,s,rfl,λd=> ?_⟩ ?_)
 ·exact⟨b.le,b.next,b.cD,b.rel,b.os,b.tape,b.output,b.size,b.frame,b.own,b.ro⟩
 ·have r:bW (bC (Array.replicate ops.size U)) T (bx [] ba)=λ_=>none:=by
   have:∀(T:List a_) (H:ae),bW (bC (Array.replicate ops.size U)) T H=λ_=>none:=by
    intro T
    induction T with
    |nil=>intro H;rfl
    |cons t T k=>
     intro H
     funext l
     unfold bW;split
     ·rw[k,e];simp
     ·rw[k]
   exact this T _
  rw[r];exact ca.start o.drew g.new
 ·rw[hX λt _ _=>e _]
 ·refine Nat.le_trans List.countP_le_length ?_;simp
end
def a6.sL{α:Type}(x y:α):∀(p q:List dT) (t:a6 α),p≠q->a6.b0 x p (a6.b0 y q t)=a6.b0 y q (a6.b0 x p t)
 |[],[],_,h=>absurd rfl h
 |[],d::q,.leaf,_=>by cases d<;>simp[a6.b0]
 |[],d::q,.node ..,_=>by cases d<;>simp[a6.b0]
 |d::p,[],.leaf,_=>by cases d<;>simp[a6.b0]
 |d::p,[],.node ..,_=>by cases d<;>simp[a6.b0]
 |d::p,e::q,.leaf,h=>by
  by_cases a:d=e
  ·subst a;have f:=a6.sL x y p q .leaf (λb=>h (by rw[b]));cases d<;>simp[a6.b0,f]
  ·cases d<;>cases e<;>first|exact absurd rfl a|simp[a6.b0]
 |d::p,e::q,.node v g i j k l m n o,h=>by
  by_cases a:d=e
  ·subst a;have f:=λc=>a6.sL x y p q c (λb=>h (by rw[b]))
   cases d<;>simp[a6.b0,f]
  ·cases d<;>cases e<;>first|exact absurd rfl a|simp[a6.b0]
def ae.set_comm{H:ae}{l m:Nat}{b c:bk}(h:l≠m):(H.set l b).set m c=(H.set m c).set l b:=by
 simp only[ae.set,a6.put];rw[a6.sL _ _ _ _ _ (λe=>h (yg e).symm)]
section
variable {E:Env}{P:Program}{call:ai}{ops:Array Oper}{ord:List Nat}{bI bw:aX}{ba bF:ae}{T:List a_}{ρ0:Env}{w0:World}{Q:Exit->Act->World->Prop}
def cc(ops:Array Oper)(b a:Nat):Array Oper:=ops.mapIdx λi aw=>if i=b then {aw with after:=aw.after.push ⟨a,default⟩}else aw
def cX(b a i:Nat)(aw:Oper):Oper:=if i=b then {aw with after:=aw.after.push ⟨a,default⟩}else aw
def dj(ops:Array Oper)(b a i:Nat):(cc ops b a)[i]? =(ops[i]?).map (cX b a i):=by
 simp only[cc,Array.getElem?_mapIdx];rfl
def dH(ops:Array Oper)(b a:Nat):(cc ops b a).size=ops.size:=by simp[cc]
def eD(b a i:Nat)(aw:Oper):(cX b a i aw).op=aw.op/\(cX b a i aw).dst=aw.dst/\(cX b a i aw).guard=aw.guard:=by unfold cX;split<;>exact⟨rfl,rfl,rfl⟩
def rv{b a i:Nat}{aw:Oper}{L:Nat->Bool}(h:dG L aw)(d:i=b->L a=V):dG L (cX b a i aw):=by
 unfold cX;split
 ·rename_i e;intro x c f;simp only[Array.mem_push]at c;rcases c with c|rfl
  ·exact h x c f
  ·exact d e
 ·exact h
def vE{b a i:Nat}{aw:Oper}{L:Nat->Bool}(h:dG L (cX b a i aw)):dG L aw:=by
 unfold cX at h;split at h
 ·intro x d c;exact h x (by simp[d]) c
 ·exact h
def z_(b a i:Nat)(C:aX)(aw:Oper):c2 (cc ops b a) C (cX b a i aw)=c2 ops C aw:=by
 unfold c2;rw[(eD b a i aw).2.2];cases aw.guard with
 |none=>rfl
 |some p=>
  obtain⟨j,want⟩:=p;simp only[dj];cases c:ops[j]? with
  |none=>rfl
  |some q=>simp only[Option.map_some,(eD b a j q).2.1]
def cY(b a:Nat)(t:a_):a_:=⟨t.i,cX b a t.i t.aw,t.C,t.k⟩
def r4(b a:Nat):∀(is:List Nat) (C:aX) (H:ae),canRun P call (cc ops b a) is C H=(canRun P call ops is C H).map λp=>(p.1.map (cY b a),p.2)
 |[],_,_=>rfl
 |i::is,C,H=>by
  simp only[canRun,dj];cases d:ops[i]? with
  |none=>rfl
  |some aw=>
   simp only[Option.map_some];have c:cm P call (cc ops b a) (cX b a i aw) C H=cm P call ops aw C H:=by
    unfold cm;rw[z_,(eD b a i aw).1]
   rw[c,(eD b a i aw).2.1];cases cm P call ops aw C H with
   |none=>rfl
   |some k=>
    simp only
    cases C.put aw.dst k.val with
    |none=>rfl
    |some aU=>
     simp only
     rw[r4 b a is aU (k.heap H)];cases canRun P call ops is aU (k.heap H)with
     |none=>rfl
     |some p=>rfl
def hA(a:List Nat):∀(is:List Nat) (C:aX) (H:ae),canRun P call ops (is++a) C H=(canRun P call ops is C H).bind λp=>(canRun P call ops a p.2.1 p.2.2).map λq=>(p.1++q.1,q.2)
 |[],C,H=>by
  simp only[List.nil_append,canRun,Option.bind_some];cases canRun P call ops a C H<;>rfl
 |i::is,C,H=>by
  simp only[List.cons_append,canRun];cases ops[i]? with
  |none=>rfl
  |some aw=>
   simp only
   cases cm P call ops aw C H with
   |none=>rfl
   |some k=>
    simp only
    cases C.put aw.dst k.val with
    |none=>rfl
    |some aU=>
     simp only
     rw[hA a is aU (k.heap H)];cases canRun P call ops is aU (k.heap H)with
     |none=>rfl
     |some p=>
      simp only[Option.bind_some];cases canRun P call ops a p.2.1 p.2.2<;>rfl
def vI{b a i:Nat}{K:Act->World->Prop}{c:Act}{w:World}(h:wpOp P (cc ops b a) Q i K c w):wpOp P ops Q i K c w:=by
 unfold wpOp at h ⊢;rw[dj]at h;have e:yielded (cc ops b a) c.tmps=yielded ops c.tmps:=by
  funext j
  unfold yielded;rw[dj];cases ops[j]? with
  |none=>rfl
  |some q=>simp only[Option.map_some,Option.bind_some,(eD b a j q).2.1]
 rw[e]at h;cases d:ops[i]? with
 |none=>rw[d]at h;exact h
 |some aw=>
  rw[d]at h;simp only[Option.map_some]at h;unfold cX at h;split at h<;>exact h
def sM{b a:Nat}{e:Array Bool}(d:e.size=ops.size)(k:bC e a=V){i:Nat}:i∈Region.ready .any (cc ops b a) e↔i∈Region.ready .any ops e:=by
 constructor
 ·intro h;obtain⟨aw,c,f,g,j⟩:=eY h (by rw[dH];exact d);rw[dj]at c;obtain⟨q,l,rfl⟩:=Option.map_eq_some_iff.1 c;exact nO l f (vE g) d
 ·intro h;obtain⟨aw,c,f,g,j⟩:=eY h d;exact nO (by rw[dj,c];rfl) f (rv g λ_=>k) (by rw[dH];exact d)
def vH{b a:Nat}:∀(fuel:Nat) {f:Array Bool} {c:Act} {w:World},f.size=ops.size->bC f a=V->wpAny P .any (cc ops b a) Q fuel f c w->wpAny P .any ops Q fuel f c w
 |0,f,c,w,d,g,h=>by
  refine⟨?_,h.2⟩;rw[List.eq_nil_iff_forall_not_mem];intro i e;have:=(sM (b:=b) d g).2 e;rw[h.1]at this;simp at this
 |fuel+1,f,c,w,d,g,h=>by
  refine⟨λk=>h.1 ?_,λi e=> ?_⟩
  ·rw[List.eq_nil_iff_forall_not_mem];intro i e;have:=(sM d g).1 e;rw[k]at this;simp at this
  ·refine wpOp_mono (λl m bs=>vH fuel (by simpa using d) ?_ bs) (vI (h.2 i ((sM d g).2 e)));obtain⟨aw,_,_,_,j⟩:=eY e d;rw[eS (by rw[d];exact j)];split
   ·rfl
   ·exact g
def dt(bI:aX)(ba:ae)(T:List a_)(N:Nat)(ρ0:Env)(w0:World)(L:Nat->Bool)(a:Act)(w:World):Prop:=∃ρ T1 T2,T=T1++T2/\(∀t∈T1,t.k.b7=V->L t.i=V)/\(∀t∈T2,(∃v H,t.k= .br v H)->L t.i=U)/\ ca ρ0 ba w0 N (bW L T2 (bx T1 ba)) ρ (bx T1 ba) w/\∃b:aX,bY ρ b a/\b.size=bI.size/\∀d,b.get d=b_ L d T (bI.get d)
def sl(b a:Nat):∀(T:List a_) (H:ae),bx (T.map (cY b a)) H=bx T H
 |[],_=>rfl
 |t::T,H=>sl b a T (t.k.heap H)
def nK(b a:Nat)(L:Nat->Bool):∀(T:List a_) (H:ae),bW L (T.map (cY b a)) H=bW L T H
 |[],_=>rfl
 |t::T,H=>by
  funext l
  simp only[List.map_cons,bW,cY];cases d:t.k with
  |new v c=>simp only[nK b a L T (H.push c)]
  |_=>exact congrFun (nK b a L T _) l
def sN(b a:Nat)(L:Nat->Bool)(d:Nat):∀(T:List a_) (v:aa),b_ L d (T.map (cY b a)) v=b_ L d T v
 |[],_=>rfl
 |t::T,v=>by
  simp only[List.map_cons,b_,cY,(eD b a t.i t.aw).2.1];exact sN b a L d T _
def dt.up{b a:Nat}{N:Nat}{L:Nat->Bool}{c:Act}{w:World}(h:dt bI ba T N ρ0 w0 L c w):dt bI ba (T.map (cY b a)) N ρ0 w0 L c w:=by
 obtain⟨ρ,T1,T2,rfl,i,j,k,g,l,m,n⟩:=h;refine⟨ρ,T1.map (cY b a),T2.map (cY b a),by simp,λt f e=> ?_,λt f e=> ?_,?_,g,l,m,λd=> ?_⟩
 ·obtain⟨u,hu,rfl⟩:=List.mem_map.1 f;exact i u hu e
 ·obtain⟨u,hu,rfl⟩:=List.mem_map.1 f;exact j u hu e
 ·rw[sl,nK];exact k
 ·rw[sN];exact n d
def dt.down{b a:Nat}{N:Nat}{L:Nat->Bool}{c:Act}{w:World}(h:dt bI ba (T.map (cY b a)) N ρ0 w0 L c w):dt bI ba T N ρ0 w0 L c w:=by
 obtain⟨ρ,T1,T2,e,m,n,i,j,o,p,q⟩:=h;obtain⟨k,l,rfl,rfl,rfl⟩:=List.map_eq_append_iff.1 e;refine⟨ρ,k,l,rfl,λt g f=>m (cY b a t) (List.mem_map.2 ⟨t,g,rfl⟩) f,λt g f=>n (cY b a t) (List.mem_map.2 ⟨t,g,rfl⟩) f,?_,j,o,p,λd=> ?_⟩
 ·rw[sl,nK]at i;exact i
 ·have:=q d;rwa[sN]at this
def sI{L:Nat->Bool}:∀{zD:List a_} {H:ae},(∀t∈zD,∀v b,t.k≠ .new v b)->bW L zD H=λ_=>Y
 |[],_,_=>rfl
 |t::zD,H,h=>by
  rw[gL (h t (by simp))];exact sI λu hu=>h u (by simp[hu])
def sG{L:Nat->Bool}{zD D':List a_}(h:∀t∈zD,∀v b,t.k≠ .new v b)(bs:∀t∈D',∀v b,t.k≠ .new v b):∀{zC:List a_} {H:ae},bW L (zC++zD) H=bW L (zC++D') H
 |[],H=>by rw[List.nil_append,List.nil_append,sI h,sI bs]
 |t::zC,H=>by
  funext l
  simp only[List.cons_append,bW];cases c:t.k with
  |new v a=>simp only[sG h bs (zC:=zC) (H:=H.push a)]
  |_=>exact congrFun (sG h bs (zC:=zC)) l
def dt.swap{A M:List a_}{ta tb ta2 tb2:a_}{N:Nat}{L:Nat->Bool}{c:Act}{w:World}(s:∀t∈M,t.k.b7=U)(m:∃v H,ta.k= .br v H)(p:∃v H,tb.k= .br v H)(o:∃v H,ta2.k= .br v H)(q:∃v H,tb2.k= .br v H)
  (S:ta2.i=ta.i) (T:tb2.i=tb.i) (E:ta.aw.dst=Y) (G:tb.aw.dst=Y) (F:ta2.aw.dst=Y) (K:tb2.aw.dst=Y) (z:L ta.i=U) (W:L tb.i=U) (h:dt bI ba (A++ta::(M++[tb])) N ρ0 w0 L c w):dt bI ba (A++(M++[tb2,ta2])) N ρ0 w0 L c w:=by
 obtain⟨ρ,T1,T2,e,r,O,P,C,ab,ad,ae⟩:=h;obtain⟨ak,af,m⟩:=m;obtain⟨am,ai,p⟩:=p;obtain⟨al,ah,o⟩:=o;obtain⟨an,aj,q⟩:=q;obtain⟨zC,Q,R⟩:∃zC,A=T1++zC/\T2=zC++ta::(M++[tb]):=by
  rcases List.append_eq_append_iff.1 e with⟨x,j,g⟩|⟨x,j,g⟩
  ·cases x with
   |nil=>rw[List.append_nil]at j;exact⟨[],by rw[j,List.append_nil],by rw[List.nil_append]at g;rw[<-g,List.nil_append]⟩
   |cons y x=>
    simp only[List.cons_append,List.cons.injEq]at g;obtain⟨rfl,_⟩:=g;have:=r ta (by rw[j];simp) (by rw[m];rfl);rw[z]at this;cases this
  ·exact⟨x,j,g⟩
 subst Q;subst R;have B:∀t∈M,∀v b,t.k≠ .new v b:=λt a v b e=>by have:=s t a;rw[e]at this;cases this
 refine⟨ρ,T1,zC++(M++[tb2,ta2]),by simp,r,λt a u=> ?_,?_,C,ab,ad,λd=> ?_⟩
 ·simp only[List.mem_append,List.mem_cons,List.not_mem_nil,or_false]at a;rcases a with a|a|rfl|rfl
  ·exact O t (by simp[a]) u
  ·obtain⟨v,H,e⟩:=u;have:=s t a;rw[e]at this;cases this
  ·rw[T];exact W
  ·rw[S];exact z
 ·rw[sG (D':=ta::(M++[tb]))]
  ·exact P
  ·intro t a v b f;simp only[List.mem_append,List.mem_cons,List.not_mem_nil,or_false]at a;rcases a with a|rfl|rfl
   ·exact B t a v b f
   ·rw[q]at f;cases f
   ·rw[o]at f;cases f
  ·intro t a v b f;simp only[List.mem_append,List.mem_cons,List.not_mem_nil,or_false]at a;rcases a with rfl|a|rfl
   ·rw[m]at f;cases f
   ·exact B t a v b f
   ·rw[p]at f;cases f
 ·rw[ae d];have n:∀{x:aa} {t:a_},t.aw.dst=Y->∀{l:List a_},b_ L d (t::l) x=b_ L d l x:=λa=>by
   intro l;simp only[b_,a];rw[if_neg (by simp)]
  rw[ev,ev,ev,ev,n E,ev,ev,n G,n K,n F]
def Vc{a b:Nat}{ak al:List Nat}{T1 T2:List a_}{C:aX}(ab:a≠b)(o:Ctx P call (cc ops b a) ak bI ba T1 bw bF)(F:Ctx P call (cc ops a b) al bI ba T2 C bF)(s:bm E P call)(p:E.le ρ0)
  (ai:∀L c w,L a=U->L b=U->dt bI ba T1 bF.next ρ0 w0 L c w->dt bI ba T2 bF.next ρ0 w0 L c w) (aa:C=bw) (v:∀ρ a w,bY ρ bw a->Step ρ0 ba w0 ρ bF w->Q .normal a w):
  ∀(fuel:Nat) (d:Array Bool) (c:Act) (w:World),Inv (cc ops b a) bI ba T1 bF.next ρ0 w0 d c w->bC d a=U->bC d b=U->(List.range ops.size).countP (λj=> !bC d j)<=fuel->wpAny P .any ops Q fuel d c w:=by
 subst aa;have N:∀d c w,Inv (cc ops b a) bI ba T1 bF.next ρ0 w0 d c w->Region.ready .any ops d=[]->Q .normal c w:=by
  intro d c w f k;have g:d.size=ops.size:=by have:=f.size;rwa[dH]at this
  have ah:Region.ready .any (cc ops b a) d=[]:=by
   rw[List.eq_nil_iff_forall_not_mem];intro i n;obtain⟨aw,l,m,H,K⟩:=eY n f.size;rw[dj]at l;obtain⟨q,ae,rfl⟩:=Option.map_eq_some_iff.1 l;have:=nO ae m (vE H) g;rw[k]at this;simp at this
  obtain⟨ρ,l,m⟩:=o.final f (o.vU f.size ah);exact v ρ c w l m
 intro fuel
 induction fuel with
 |zero=>
  intro d c w f _ _ M;have g:d.size=ops.size:=by have:=f.size;rwa[dH]at this
  have k:Region.ready .any ops d=[]:=by
   rw[List.eq_nil_iff_forall_not_mem];intro i n;obtain⟨aw,l,m,H,K⟩:=eY n g;have am:0<(List.range ops.size).countP (λj=> !bC d j):=List.countP_pos_iff.2 ⟨i,by simpa using K,by simp[m]⟩;omega
  exact⟨k,N _ _ _ f k⟩
 |succ fuel aj=>
  intro d c w f A T M;have g:d.size=ops.size:=by have:=f.size;rwa[dH]at this
  refine⟨λk=>N _ _ _ f k,λi n=> ?_⟩;obtain⟨aw,R,y,hw,t⟩:=eY n g;have S:i<d.size:=by rw[g];exact t
  have x:=count_set S t y M;have r:∀j,bC (d.setIfInBounds i V) j=if j=i then V else bC d j:=λj=>eS S j
  by_cases u:i=b
  ·
    subst u;have ad:Inv (cc ops a i) bI ba T2 bF.next ρ0 w0 d c w:=by
     refine⟨by rw[dH];exact g,λj q O z=> ?_,ai _ _ _ A T f.mid⟩;rw[dj]at O;obtain⟨an,af,rfl⟩:=Option.map_eq_some_iff.1 O;have W:=f.closed j _ (by rw[dj,af];rfl) z;refine rv (vE W) λe=> ?_
     subst e;rw[A]at z;cases z
    refine vI (b:=a) (a:=i) (F.step s p ad (by rw[dj,R];rfl) y (rv hw λe=>absurd e.symm ab) (by rw[dH];exact t) λbX B h=> ?_);refine vH fuel (by simpa using g) (by rw[r,if_pos rfl]) (F.any s p v fuel _ bX B h ?_);rw[dH];exact x
  ·refine vI (b:=b) (a:=a) (o.step s p f (by rw[dj,R];rfl) y (rv hw λe=>absurd e u) (by rw[dH];exact t) λbX B h=> ?_);by_cases G:i=a
   ·subst G;refine vH fuel (by simpa using g) (by rw[r,if_pos rfl]) (o.any s p v fuel _ bX B h ?_);rw[dH];exact x
   ·exact aj _ _ _ h (by rw[r,if_neg (Ne.symm G)];exact A) (by rw[r,if_neg (Ne.symm u)];exact T) x
def c8(ops:Array Oper)(a:Nat):Option (TypeId×Operand×Operand):=match ops[a]? with
 |some aw=>(match aw.op,aw.guard,aw.dst with
  | .store t x y,Y,Y=>D (t,x,y)
  |_,_,_=>Y)
 |none=>Y
def eN(ms:List Nat)(ops:Array Oper):List Nat->List Nat->Bool
 |[],_=>V
 |i::is,ids=>match ops[i]? with
  |some aw=>(match cls aw.op with
   | .new=>eN ms ops is (i::ids)
   | .write=>ids.all (λj=>bD ms j i)&&eN ms ops is (i::ids)
   | .call=>ids.all (λj=>bD ms j i)&&eN ms ops is (i::ids)
   |_=>eN ms ops is ids)
  |none=>V
def yp(ops:Array Oper)(ord:List Nat)(a b:Nat):Bool:=ord.all λi=>match ops[i]? with
 |some aw=>(match cls aw.op with
  | .read=>bD (bA ops) i a&&(bD (bA ops) i b&& !bD (bA ops) a i)
  | .both=>bD (bA ops) i a&&(bD (bA ops) i b&& !bD (bA ops) a i)
  |_=>V)
 |none=>V
def nI(ops:Array Oper)(ord:List Nat):Bool:=fG ops (bA ops) ord&&eN (bA ops) ops ord []
def Tw{aw:Op}{C:aX}{H:ae}{v:aa}{H':ae}(h:cW P call aw C H=D (.br v H')):cls aw= .write\/cls aw= .call:=by
 unfold cW at h;split at h
 ·unfold er at h;split at h<;>cases h
 ·unfold dX at h;split at h<;>cases h
 ·split at h
  ·cases h
  ·unfold dX at h;split at h<;>cases h
 ·unfold nz at h;split at h<;>cases h
 ·rename_i a;exact .inl a
 ·rename_i a;exact .inr a
def Ty{aw:Op}{C:aX}{H:ae}{v:aa}{b:bk}(h:cW P call aw C H=D (.new v b)):cls aw= .new:=by
 unfold cW at h;split at h
 ·unfold er at h;split at h<;>cases h
 ·unfold dX at h;split at h<;>cases h
 ·split at h
  ·cases h
  ·unfold dX at h;split at h<;>cases h
 ·rename_i a;exact a
 ·unfold dC at h;split at h
  ·split at h<;>cases h
  ·cases h
 ·split at h
  ·split at h
   ·unfold dC at h;split at h
    ·split at h<;>cases h
    ·cases h
   ·cases h
  ·cases h
def TA{aw:Op}{C:aX}{H:ae}{v:aa}(h:cW P call aw C H=D (.read v)):cls aw= .read\/cls aw= .both:=by
 unfold cW at h;split at h
 ·unfold er at h;split at h<;>cases h
 ·rename_i a;exact .inl a
 ·rename_i a;exact .inr a
 ·unfold nz at h;split at h<;>cases h
 ·unfold dC at h;split at h
  ·split at h<;>cases h
  ·cases h
 ·split at h
  ·split at h
   ·unfold dC at h;split at h
    ·split at h<;>cases h
    ·cases h
   ·cases h
  ·cases h
def sr{aw:Oper}{C:aX}{H:ae}{k:K}(h:cm P call ops aw C H=D k)(a:k≠ .skip):cW P call aw.op C H=D k:=by
 unfold cm at h;split at h
 ·exact h
 ·simp only[aV]at h;exact absurd h.symm a
def gy{ms:List Nat}:∀{is:List Nat} {C:aX} {H:ae} {T:List a_} {aU:aX} {H':ae} {ids f:List Nat},canRun P call ops is C H=D (T,aU,H')->eN ms ops is ids=V->(∀j∈f,j∈ids)->c3 ms T f=V
 |[],C,H,T,aU,H',ids,f,h,_,_=>by
  simp only[canRun,aV,bE]at h;rw[<-h.1];rfl
 |i::is,C,H,T,aU,H',ids,f,h,c,e=>by
  simp only[canRun]at h;split at h
  ·cases h
  ·rename_i aw q;split at h
   ·cases h
   ·rename_i k p;split at h
    ·cases h
    ·rename_i t _;split at h
     ·cases h
     ·rename_i T1 u r g;simp only[aV,bE]at h;obtain⟨rfl,rfl,rfl⟩:=h;simp only[eN,q]at c;have sub:∀j∈i::f,j∈i::ids:=λj a=>by
       rcases List.mem_cons.1 a with rfl|a
       ·simp
       ·simp[e j a]
      have w:∀j∈f,j∈i::ids:=λj a=>by simp[e j a]
      have o:∃l,eN ms ops is l=V/\(∀j∈ids,j∈l):=by
       split at c
       ·exact⟨_,c,λj a=>by simp[a]⟩
       ·simp only[Bool.and_eq_true]at c;exact⟨_,c.2,λj a=>by simp[a]⟩
       ·simp only[Bool.and_eq_true]at c;exact⟨_,c.2,λj a=>by simp[a]⟩
       ·exact⟨_,c,λj a=>a⟩
      simp only[c3];cases k with
      |br v s=>
       have d:=Tw (sr p (by simp));simp only[Bool.and_eq_true];rcases d with d|d<;>
       ·rw[d]at c;simp only[Bool.and_eq_true,List.all_eq_true]at c;refine⟨?_,gy g c.2 sub⟩;rw[List.all_eq_true];exactλj a=>c.1 j (e j a)
      |new v b=>
       have d:=Ty (sr p (by simp));rw[d]at c;exact gy g c sub
      |pure v=>obtain⟨l,m,n⟩:=o;exact gy g m λj a=>n j (e j a)
      |read v=>obtain⟨l,m,n⟩:=o;exact gy g m λj a=>n j (e j a)
      |skip=>obtain⟨l,m,n⟩:=o;exact gy g m λj a=>n j (e j a)
def fh(P:Program)(ms:List Nat)(a:Nat->Bool)(T:List a_)(H:ae):List a_->Bool
 |[]=>V
 |t::ts=>(match t.k with
  | .read v=>a t.i||cg ms (dq P t.aw.op t.C v) t.i T H
  |_=>V)&&fh P ms a T H ts
def y1{ms:List Nat}{a:Nat->Bool}{T:List a_}{H:ae}{t:a_}{v:aa}(b:t.k= .read v):∀{ts:List a_},fh P ms a T H ts=V->t∈ts->a t.i=V\/cg ms (dq P t.aw.op t.C v) t.i T H=V
 |[],_,hm=>by simp at hm
 |u::ts,h,hm=>by
  simp only[fh,Bool.and_eq_true]at h;rcases List.mem_cons.1 hm with rfl|hm
  ·have:=h.1;rw[b]at this;simpa using this
  ·exact y1 b h.2 hm
def yZ{ms:List Nat}{a:Nat->Bool}{T:List a_}{H:ae}:∀{ts:List a_},(∀t∈ts,∀v,t.k= .read v->a t.i=V\/cg ms (dq P t.aw.op t.C v) t.i T H=V)->dF P ms a T H ts=V
 |[],_=>rfl
 |t::ts,h=>by
  simp only[dF,Bool.and_eq_true];refine⟨?_,yZ λu hu=>h u (by simp[hu])⟩;cases b:t.k with
  |read v=>
   simp only[Bool.or_eq_true];refine(h t (by simp) v b).imp id λhw=> ?_
   unfold ga;cases eM ms t.i T U with
   |true=>rw[eo,hw];rfl
   |false=>rw[gw,hw]
  |_=>rfl
def wA{ops:Array Oper}{ord:List Nat}(h:nI ops ord=V)(cq:canRun P call ops ord bI ba=D (T,bw,bF))(hw:∀t∈T,∀v,t.k= .read v->cR ops (bA ops) ord t.i=V\/cg (bA ops) (dq P t.aw.op t.C v) t.i T ba=V):Ctx P call ops ord bI ba T bw bF:=by
 unfold nI at h;simp only[Bool.and_eq_true]at h;exact⟨cq,h.1,gy cq h.2 λj a=>a,yZ hw⟩
def J6{ord:List Nat}(cq:canRun P call ops ord bI ba=D (T,bw,bF)){t:a_}(b:t∈T){v:aa}(e:t.k= .read v):t.i∈ord/\ops[t.i]? =D t.aw/\(cls t.aw.op= .read\/cls t.aw.op= .both):=by
 obtain⟨A,B,d⟩:=List.append_of_mem b;obtain⟨c,_,a,_⟩:=nb (by rw[<-d];exact cq);rw[e]at a;exact⟨by rw[<-(dy cq).1,List.mem_map];exact⟨t,b,rfl⟩,c,TA (sr a (by simp))⟩
def r8{acc:List Nat}{j:Nat}{e:Edge}:∀{es:List Edge},e∈es->Region.binds .any e=V->(acc[e.on]?.getD 0).testBit j=V->(dm acc es).testBit j=V
 |[],h,_,_=>by simp at h
 |d::es,h,a,b=>by
  unfold dm;rcases List.mem_cons.1 h with rfl|h
  ·rw[if_pos a];simp[b]
  ·split
   ·simp[r8 h a b]
   ·exact r8 h a b
def Gi(ops:Array Oper):(bA ops).length=ops.size:=by
 have hlen:∀(os:List Oper) (acc:List Nat),(dD os acc).length=acc.length+os.length:=by
  intro os
  induction os with
  |nil=>intro acc;simp[dD]
  |cons aw os a=>intro acc;simp[dD,a];omega
 unfold bA;rw[hlen];simp
def m_(b a:Nat):∀(i j:Nat),bD (bA ops) j i=V->bD (bA (cc ops b a)) j i=true:=by
 intro i
 induction i using Nat.strongRecOn with
 |_ i m=>
  intro j c;cases f:ops[i]? with
  |none=>
   unfold bD at c;have:ops.size<=i:=by simpa using f
   rw[List.getElem?_eq_none (by rw[Gi];exact this)]at c;simp at c
  |some aw=>
   unfold bD at c ⊢;rw[nD f]at c;rw[nD (show(cc ops b a)[i]? =D (cX b a i aw) by rw[dj,f];rfl)];simp only[Option.getD_some]at c ⊢;obtain⟨e,g,h,d⟩:=ng c;have l:e∈(cX b a i aw).after.toList:=by
    unfold cX;split
    ·simp;exact .inl (by simpa using g)
    ·exact g
   rcases d with rfl|d
   ·exact nh l h
   ·refine r8 l h ?_;rcases Nat.lt_or_ge e.on i with k|n
    ·rw[List.getElem?_take_of_lt k]at d ⊢;exact m e.on k j d
    ·rw[List.getElem?_eq_none (by simp;omega)]at d;simp at d
def yS{b a:Nat}{ord d:List Nat}{i:Nat}(h:cR ops (bA ops) ord i=V)(g:∀j∈d,j∈ord):cR (cc ops b a) (bA (cc ops b a)) d i=true:=by
 unfold cR at h ⊢;rw[List.all_eq_true]at h ⊢;intro j e;have c:=h j (g j e);simp only[Bool.or_eq_true,beq_iff_eq]at c ⊢;rcases c with((c|c)|c)|c
 ·exact .inl (.inl (.inl c))
 ·refine .inl (.inl (.inr ?_));rw[dj];cases f:ops[j]? with
  |none=>rfl
  |some aw=>rw[f]at c;simp only[Option.map_some,(eD b a j aw).1];exact c
 ·exact .inl (.inr (m_ b a _ _ c))
 ·exact .inr (m_ b a _ _ c)
def rz{ms ms':List Nat}{b a:Nat}(hm:∀i j,bD ms j i=V->bD ms' j i=V){rd:ae->Bool}{i:Nat}:∀{T:List a_} {H:ae},cg ms rd i T H=V->cg ms' rd i (T.map (cY b a)) H=V
 |[],H,h=>h
 |t::T,H,h=>by
  simp only[List.map_cons,cg,cY]at h ⊢;split at h
  ·rename_i c;rw[if_pos c];simp only[Bool.and_eq_true,Bool.or_eq_true]at h ⊢;exact⟨h.1.imp (hm _ _) id,h.2.imp (hm _ _) (rz hm)⟩
  ·rename_i c;rw[if_neg c];exact rz hm h
def vG{ms:List Nat}{rd:ae->Bool}{i:Nat}{ta tb:a_}{j W M:List a_}(d:ta.k.b7=V)(e:tb.k.b7=V)(a:∀t∈M,t.k.b7=U)(b:bD ms ta.i i=U)(c:bD ms i tb.i=V):∀{A:List a_} {H:ae},cg ms rd i (A++ta::j) H=V->cg ms rd i (A++(M++tb::W)) H=V
 |[],H,h=>by
  simp only[List.nil_append,cg,d,if_true,b,Bool.false_or,Bool.and_eq_true]at h;have key:∀{M:List a_},(∀t∈M,t.k.b7=U)->cg ms rd i (M++tb::W) H=true:=by
   intro M
   induction M with
   |nil=>intro _;simp only[List.nil_append,cg,e,if_true,h.1,c,Bool.or_true,Bool.true_or,Bool.and_self]
   |cons t M g=>
    intro a;simp only[List.cons_append,cg];rw[if_neg (by rw[a t (by simp)];simp)];exact g λu hu=>a u (by simp[hu])
  exact key a
 |t::A,H,h=>by
  simp only[List.cons_append,cg]at h ⊢;split at h
  ·rename_i f;rw[if_pos f];simp only[Bool.and_eq_true,Bool.or_eq_true]at h ⊢;exact⟨h.1,h.2.imp id (vG d e a b c)⟩
  ·rename_i f;rw[if_neg f];exact vG d e a b c h
def sK(ops:Array Oper)(xs:List Operand)(i:Nat):Bool:=match ops[i]? with
 |some aw=>(match cls aw.op,aw.guard,aw.dst with
  | .pure,Y,D d=>xs.all λx=>match x with
   | .tmp t=>t != d
   |_=>V
  | .pure,Y,Y=>V
  |_,_,_=>U)
 |none=>U
def wj{xs:List Operand}:∀{is:List Nat} {C:aX} {H:ae} {M:List a_} {c:aX} {g:ae},is.all (sK ops xs)=V->canRun P call ops is C H=D (M,c,g)->g=H/\(∀t∈M,t.k.b7=U)/\(∀H',canRun P call ops is C H'=D (M,c,H'))/\∀x∈xs,bn c x=bn C x
 |[],C,H,M,c,g,_,h=>by
  simp only[canRun,aV,bE]at h;obtain⟨rfl,rfl,rfl⟩:=h;exact⟨rfl,λt b=>by simp at b,λH'=>rfl,λ_ _=>rfl⟩
 |i::is,C,H,M,c,g,r,h=>by
  simp only[List.all_cons,Bool.and_eq_true]at r;obtain⟨a,E⟩:=r;simp only[canRun]at h;split at h
  ·cases h
  ·rename_i aw q;unfold sK at a;rw[q]at a;simp only at a;have B:cls aw.op= .pure/\aw.guard=Y/\∀d,aw.dst=D d->∀x∈xs,∀t,x= .tmp t->t≠d:=by
    split at a
    ·rename_i d m n e;refine⟨m,n,λz f x j t b=> ?_⟩;rw[e]at f;cases f;rw[List.all_eq_true]at a;have:=a x j;rw[b]at this;simpa using this
    ·rename_i m n e;exact⟨m,n,λz f=>by rw[e]at f;cases f⟩
    ·cases a
   obtain⟨u,w,y⟩:=B;have p:∀H',cm P call ops aw C H'=er (c0 P aw.op C):=λH'=>by
    unfold cm c2;rw[w];simp only[cW,u]
   rw[p]at h;cases l:c0 P aw.op C with
   |none=>rw[l]at h;cases h
   |some v=>
    rw[l]at h;simp only[er]at h;split at h
    ·cases h
    ·rename_i s o;split at h
     ·cases h
     ·rename_i T1 R Q F;simp only[aV,bE]at h;obtain⟨rfl,rfl,rfl⟩:=h;obtain⟨G,L,N,O⟩:=wj E F;refine⟨G,λt b=> ?_,λH'=> ?_,λx j=> ?_⟩
      ·rcases List.mem_cons.1 b with rfl|b
       ·rfl
       ·exact L t b
      ·have A:C.put aw.dst v=D s:=o;simp only[canRun,q,p,l,er,K.val,A,K.heap];rw[N H']
      ·rw[O x j];cases x with
       |tmp t=>
        simp only[bn];rw[aX.gC o t];split
        ·rename_i e;exact absurd rfl (y t e _ j t rfl)
        ·rfl
       |_=>rfl
def rX{H H':ae}{t:TypeId}{u v:aa}(h:aA P H t u v=D H'):∃l i c b,u= .ptr l i c/\l<H.next/\H'=H.set l b/\∀a:ae,a.get l=H.get l->aA P a t u v=D (a.set l b):=by
 unfold aA at h;split at h
 ·rename_i l i c;split at h
  ·rename_i esz els d;split at h
   ·rename_i e he;split at h
    ·rename_i g;simp only[aV]at h;exact⟨l,i,c,_,rfl,ae.dz d,h.symm,λa f=>by simp only[aA,f,d,he];rw[if_pos g]⟩
    ·cases h
   ·cases h
  ·rename_i j esz els d;split at h
   ·rename_i e he;split at h
    ·rename_i g;simp only[aV]at h;exact⟨l,i,c,_,rfl,ae.dz d,h.symm,λa f=>by simp only[aA,f,d,he];rw[if_pos g]⟩
    ·cases h
   ·cases h
  ·cases h
 ·cases h
def Tv{a:Nat}{t:TypeId}{x y:Operand}(h:c8 ops a=D (t,x,y)):∃aw,ops[a]? =D aw/\aw.op= .store t x y/\aw.guard=Y/\aw.dst=none:=by
 unfold c8 at h;split at h
 ·rename_i aw e;split at h
  ·rename_i b c d;simp only[aV,bE]at h;obtain⟨rfl,rfl,rfl⟩:=h;exact⟨aw,e,b,c,d⟩
  ·cases h
 ·cases h
def nc{a:Nat}{t:TypeId}{x y:Operand}(h:c8 ops a=D (t,x,y))(is:List Nat)(C:aX)(H:ae):∃aw,ops[a]? =D aw/\aw.dst=Y/\canRun P call ops (a::is) C H=((bn C x).bind λu=>(bn C y).bind λv=>aA P H t u v).bind λH'=>(canRun P call ops is C H').map λp=>(⟨a,aw,C,.br (.tuple []) H'⟩::p.1,p.2):=by
 obtain⟨aw,d,f,g,e⟩:=Tv h;refine⟨aw,d,e,?_⟩;have j:cm P call ops aw C H=dC H (dx P (.store t x y) C H):=by
  unfold cm c2;rw[g,f];simp only[cW,cls]
 simp only[canRun,d,j,dx];cases hu:bn C x with
 |none=>rfl
 |some u=>
  simp only[Option.bind_some];cases m:bn C y with
  |none=>rfl
  |some v=>
   simp only[Option.bind_some];cases k:aA P H t u v with
   |none=>rfl
   |some H'=>
    obtain⟨l,i,c,b,_,_,rfl,_⟩:=rX k;simp only[Option.map_some,dC,ae.nF,bM,if_true,e,aX.put,K.heap,Option.bind_some];cases canRun P call ops is C (H.set l b)with
    |none=>rfl
    |some p=>rfl
def nA(C:aX)(x:Operand):Option Nat:=match bn C x with
 |some (.ptr l _ _)=>D l
 |_=>Y
def rr(ops:Array Oper)(ord pre:List Nat)(a:Nat)(mid:List Nat)(b:Nat):Bool:=
 match c8 ops a,c8 ops b with
 |some (_,c,d),D _=>decide (ord=pre++a::(mid++[b]))&&(decide (a≠b)&&(mid.all (sK ops [c,d])&&(yp ops ord a b&&(nI (cc ops b a) ord&&nI (cc ops a b) (pre++(mid++[b,a]))))))
 |_,_=>U
def hg(ops:Array Oper)(a b:Nat)(C:aX):Bool:=
 match c8 ops a,c8 ops b with
 |some (_,c,_),D (_,ad,_)=>(match nA C c,nA C ad with
  |some l,D m=> !Nat.beq l m
  |_,_=>U)
 |_,_=>U
def TF{id a b:Nat}{ord pre mid:List Nat}{act:Act}{w:World}(hm:P.follows .mixedOrders=V)(aY:bm E P call)(r:rr ops ord pre a mid b=V)(O:canRun P call ops ord bI ba=D (T,bw,bF))(N:hg ops a b bw=V)(bl:fh P (bA ops) (cR ops (bA ops) ord) T ba T=V)
  (aW:Rel ρ0 ba w) (ap:cS E ρ0 ba.next bF.next) (bd:bY ρ0 bI act) (aU:∀ρ a ab,bY ρ bw a->Step ρ0 ba w ρ bF ab->Q .normal a ab):(Code.region id ops V).wp P Q act w:=by
 unfold rr at r;unfold hg at N;cases R:c8 ops a with
 |none=>rw[R]at r;cases r
 |some bt=>
 obtain⟨b0,aB,aC⟩:=bt;cases ai:c8 ops b with
 |none=>rw[R,ai]at r;cases r
 |some bu=>
 obtain⟨b1,ad,b5⟩:=bu;rw[R,ai]at r N;simp only[Bool.and_eq_true,decide_eq_true_eq]at r N;obtain⟨bb,aX,a2,al,a3,a4⟩:=r;subst bb;have au:=O;rw[hA]at O;obtain⟨⟨A,G,H1⟩,aQ,O⟩:=bZ.1 O;obtain⟨⟨a6,bQ,bN⟩,K,he⟩:=Option.map_eq_some_iff.1 O;simp only[bE]at he;obtain⟨rfl,rfl,rfl⟩:=he;simp only at K;obtain⟨x,a5,an,aH⟩:=nc (P:=P) (call:=call) R (mid++[b]) G H1;rw[aH]at K;obtain⟨bL,S,K⟩:=bZ.1 K;obtain⟨⟨bR,bO,bJ⟩,af,he⟩:=Option.map_eq_some_iff.1 K;simp only[bE]at he;obtain⟨rfl,rfl,rfl⟩:=he;rw[hA]at af;obtain⟨⟨M,f,aD⟩,aT,af⟩:=bZ.1 af;obtain⟨⟨bT,bP,bK⟩,z,he⟩:=Option.map_eq_some_iff.1 af;simp only[bE]at he;obtain⟨rfl,rfl,rfl⟩:=he
 simp only at z;obtain⟨rfl,az,bp,aA⟩:=wj a2 aT;obtain⟨y,a8,ao,aJ⟩:=nc (P:=P) (call:=call) ai [] f aD;rw[aJ]at z;obtain⟨bM,aa,z⟩:=bZ.1 z;simp only[canRun,Option.map_some,aV,bE]at z;obtain⟨rfl,rfl,rfl⟩:=z;obtain⟨b2,bh,S⟩:=bZ.1 S;obtain⟨bH,bi,S⟩:=bZ.1 S;obtain⟨b3,ax,aa⟩:=bZ.1 aa;obtain⟨b4,bk,aa⟩:=bZ.1 aa;obtain⟨g,bo,aG,o,rfl,bV,rfl,aL⟩:=rX S;obtain⟨m,bX,bU,n,rfl,a1,rfl,aM⟩:=rX aa;have av:bn f aB=D (.ptr g bo aG):=(aA aB (by simp)).trans bh;have bj:bn f aC=D bH:=(aA aC (by simp)).trans bi;have ak:g≠m:=by
  simp only[nA,av,ax]at N;intro e;subst e;simp at N
 simp only[ae.nF]at a1;have bG:=aM H1 (by rw[ae.cx ak]);have bB:=aL (H1.set m n) (by rw[ae.cx (Ne.symm ak)]);have aZ:(H1.set m n).set g o=(H1.set g o).set m n:=(ae.set_comm ak).symm;have be:canRun P call ops (pre++(mid++[b,a])) bI ba=D (A++(M++[⟨b,y,f,.br (.tuple []) (H1.set m n)⟩,⟨a,x,f,.br (.tuple []) ((H1.set g o).set m n)⟩]),f,(H1.set g o).set m n):=by
  obtain⟨bq,a7,_,aI⟩:=nc (P:=P) (call:=call) R [] f (H1.set m n);obtain rfl:bq=x:=Option.some.inj (a7.symm.trans a5);obtain⟨bs,a9,_,aK⟩:=nc (P:=P) (call:=call) ai [a] f H1;obtain rfl:bs=y:=Option.some.inj (a9.symm.trans a8);rw[hA,aQ];simp only[Option.bind_some];rw[hA,bp H1];simp only[Option.bind_some];rw[aK,ax,bk];simp only[Option.bind_some,bG];rw[aI,av,bj];simp only[Option.bind_some,bB,canRun,Option.map_some,aZ]
 have aq:∀t∈A++⟨a,x,G,.br (.tuple []) (H1.set g o)⟩::(M++[⟨b,y,f,.br (.tuple []) ((H1.set g o).set m n)⟩]),∀v,t.k= .read v->bD (bA ops) a t.i=U/\bD (bA ops) t.i b=V/\(cR ops (bA ops) (pre++a::(mid++[b])) t.i=V\/cg (bA ops) (dq P t.aw.op t.C v) t.i (A++⟨a,x,G,.br (.tuple []) (H1.set g o)⟩::(M++[⟨b,y,f,.br (.tuple []) ((H1.set g o).set m n)⟩])) ba=V):=by
  intro t F v s;obtain⟨bv,bx,bz⟩:=J6 au F s;unfold yp at al;rw[List.all_eq_true]at al;have q:=al _ bv;rw[bx]at q;simp only at q;refine⟨?_,?_,y1 s bl F⟩<;>
  ·rcases bz with am|am<;>
   ·rw[am]at q;simp only[Bool.and_eq_true,Bool.not_eq_true']at q
    first|exact q.2.2|exact q.2.1
 have aE:=wA a3 (show canRun P call (cc ops b a) (pre++a::(mid++[b])) bI ba=D (_,_,_) by rw[r4,au];rfl) (λt F v s=>by
  obtain⟨u,hu,rfl⟩:=List.mem_map.1 F;obtain⟨_,_,aj⟩:=aq u hu v s;refine aj.imp (λh=>yS h λj ah=>ah) λh=> ?_
  have:=rz (b:=b) (a:=a) (ms':=bA (cc ops b a)) (m_ b a) h;simpa only[cY,(eD b a u.i u.aw).1]using this)
 have bf:∀j∈pre++(mid++[b,a]),j∈pre++a::(mid++[b]):=λj ah=>by
  simp only[List.mem_append,List.mem_cons,List.not_mem_nil,or_false]at ah ⊢;rcases ah with h|h|h|h
  ·exact .inl h
  ·exact .inr (.inr (.inl h))
  ·exact .inr (.inr (.inr h))
  ·exact .inr (.inl h)
 have aF:=wA a4 (show canRun P call (cc ops a b) (pre++(mid++[b,a])) bI ba=D (_,_,_) by rw[r4,be];rfl) (λt F v s=>by
  obtain⟨u,hu,rfl⟩:=List.mem_map.1 F;have bg:u∈A++⟨a,x,G,.br (.tuple []) (H1.set g o)⟩::(M++[⟨b,y,f,.br (.tuple []) ((H1.set g o).set m n)⟩]):=by
   simp only[List.mem_append,List.mem_cons,List.not_mem_nil,or_false]at hu ⊢;rcases hu with h|h|rfl|rfl
   ·exact .inl h
   ·exact .inr (.inr (.inl h))
   ·cases s
   ·cases s
  obtain⟨aO,q,aj⟩:=aq u bg v s;refine aj.imp (λh=>yS h bf) λh=> ?_
  have aP:=vG (tb:=⟨b,y,f,.br (.tuple []) (H1.set m n)⟩) (W:=[⟨a,x,f,.br (.tuple []) ((H1.set g o).set m n)⟩]) rfl rfl az aO q h;have:=rz (b:=a) (a:=b) (ms':=bA (cc ops a b)) (m_ a b) aP;simpa only[cY,(eD a b u.i u.aw).1]using this)
 have B:∀j,bC (Array.replicate ops.size U) j=false:=λj=>by
  unfold bC;rw[Array.getD_eq_getD_getElem?];by_cases h:j<ops.size<;>simp[h]
 refine wp_region_any hm (Vc (ρ0:=ρ0) (w0:=w.drew) aX aE aF aY ap.le (λL c ab aR aS h=> ?_) rfl (λρ a ab aN p=>aU ρ a ab aN ?_) _ _ _ _ ⟨by rw[dH];simp,λi aw _ a0=>absurd a0 (by rw[B];simp),ρ0,[],_,rfl,by simp,λt _ _=>B _,?_,bI,bd,rfl,λd=> ?_⟩ (B a) (B b) ?_)
 ·exact(dt.swap (ta:=⟨a,x,G,.br (.tuple []) (H1.set g o)⟩) (tb:=⟨b,y,f,.br (.tuple []) ((H1.set g o).set m n)⟩) (ta2:=⟨a,x,f,.br (.tuple []) ((H1.set g o).set m n)⟩) (tb2:=⟨b,y,f,.br (.tuple []) (H1.set m n)⟩) az ⟨_,_,rfl⟩ ⟨_,_,rfl⟩ ⟨_,_,rfl⟩ ⟨_,_,rfl⟩ rfl rfl an ao an ao aR aS h.down).up
 ·exact⟨p.le,p.next,p.cD,p.rel,p.os,p.tape,p.output,p.size,p.frame,p.own,p.ro⟩
 ·have bc:∀(T:List a_) (H:ae),bW (bC (Array.replicate ops.size U)) T H=λ_=>none:=by
   intro T
   induction T with
   |nil=>intro H;rfl
   |cons t T ay=>
    intro H
    funext l
    unfold bW;split
    ·rw[ay,B];simp
    ·rw[ay]
  rw[bc];exact ca.start aW.drew ap.new
 ·rw[hX λt _ _=>B _]
 ·refine Nat.le_trans List.countP_le_length ?_;simp
def hh(ops:Array Oper)(ord:List Nat):Option (Nat×Nat):=match ord.getLast? with
 |none=>Y
 |some b=>match c8 ops b with
  |none=>Y
  |some _=>match ord.dropLast.find? (λa=>(c8 ops a).isSome&& !bD (bA ops) a b)with
   |none=>Y
   |some a=>match rr ops ord (ord.dropLast.takeWhile λi=> !Nat.beq i a) a ((ord.dropLast.dropWhile λi=> !Nat.beq i a).drop 1) b with
    |true=>D (a,b)
    |false=>Y
def TE{ops:Array Oper}{ord:List Nat}{a b:Nat}(h:hh ops ord=D (a,b)):∃pre mid,rr ops ord pre a mid b=true:=by
 unfold hh at h;split at h
 ·cases h
 ·split at h
  ·cases h
  ·split at h
   ·cases h
   ·split at h
    ·rename_i c;simp only[aV,bE]at h;obtain⟨rfl,rfl⟩:=h;exact⟨_,_,c⟩
    ·cases h
end
def ds(P:Program)(call:ai)(ops:Array Oper):List Oper->aX->ae->Option (aX×ae)
 |[],C,H=>D (C,H)
 |aw::os,C,H=>match cm P call ops aw C H with
  |none=>Y
  |some k=>match C.put aw.dst k.val with
   |none=>Y
   |some aU=>ds P call ops os aU (k.heap H)
def zq(aw:Oper):Bool:=match cls aw.op with
 | .write=>V
 | .call=>V
 |_=>U
def need(m:Nat)(done:Nat):List Nat->List Nat
 |[]=>[]
 |j::a=>if m.testBit j&& !done.testBit j then j::need m done a else need m done a
def yD(done:Nat):List Nat->Nat
 |[]=>done
 |j::a=>yD (done|||2^j) a
def sF(ms all:List Nat):List (Nat×Oper)->Nat->List Nat
 |[],done=>need (2^all.length-1) done all
 |(i,aw)::is,done=>if zq aw&& !done.testBit i then
   (let a:=need (ms[i]?.getD 0) done all
    a++i::sF ms all is (yD done a|||2^i))
  else sF ms all is done
def y4:Nat->List Oper->List (Nat×Oper)
 |_,[]=>[]
 |i,aw::os=>(i,aw)::y4 (i+1) os
def order(ops:Array Oper):List Nat:=sF (bA ops) (List.range ops.size) (y4 0 ops.toList) 0
def c5(P:Program)(call:ai)(ops:Array Oper)(draw:Bool)(C:aX)(H:ae):Option (aX×ae):=
 match draw with
 |false=>ds P call ops ops.toList C H
 |true=>match canRun P call ops (order ops) C H with
  |none=>Y
  |some (T,aU,H')=>match hh ops (order ops)with
   |some (a,b)=>(match hg ops a b aU&&fh P (bA ops) (cR ops (bA ops) (order ops)) T H T with
    |false=>Y
    |true=>D (aU,H'))
   |none=>match c3 (bA ops) T []with
    |false=>Y
    |true=>match dF P (bA ops) (cR ops (bA ops) (order ops)) T H T with
     |false=>Y
     |true=>D (aU,H')
def dP:Code->Bool
 | .region _ ops V=>fG ops (bA ops) (order ops)
 | .seq a b=>dP a&&dP b
 | .cond _ a b=>dP a&&dP b
 | .block _ b=>dP b
 | .loop b=>dP b
 |_=>V
inductive cB where
 |normal
 |exit (id:Nat)
 |ret
def cB.r_:cB->Exit
 | .normal=> .normal
 | .exit id=> .exit id
 | .ret=> .ret
abbrev m7:=Array Oper->Bool->aX->ae->Option (aX×ae)
def iter(f:aX->ae->Option (cB×aX×ae)):Nat->aX->ae->Option (cB×aX×ae)
 |0,_,_=>Y
 |n+1,C,H=>match f C H with
  |some (.normal,aU,H')=>iter f n aU H'
  |r=>r
def bU(cP:m7)(N:Nat):Code->aX->ae->Option (cB×aX×ae)
 | .skip,C,H=>D (.normal,C,H)
 | .region _ ops d,C,H=>match cP ops d C H with
  |some (aU,H')=>D (.normal,aU,H')
  |none=>Y
 | .seq a b,C,H=>match bU cP N a C H with
  |some (.normal,aU,H')=>bU cP N b aU H'
  |r=>r
 | .cond c a b,C,H=>match bn C c with
  |some (.bool V)=>bU cP N a C H
  |some (.bool U)=>bU cP N b C H
  |_=>Y
 | .block id b,C,H=>match bU cP N b C H with
  |some (.exit e,aU,H')=>if e=id then D (.normal,aU,H')else D (.exit e,aU,H')
  |r=>r
 | .loop b,C,H=>iter (λC H=>bU cP N b C H) N C H
 | .exit id,C,H=>D (.exit id,C,H)
 | .ret,C,H=>D (.ret,C,H)
 | .label _,C,H=>D (.normal,C,H)
 |_,_,_=>Y
def aX.hO(t:a6 aa):Nat->List aa->a6 aa
 |_,[]=>t
 |i,v::a=>aX.hO (a6.put v (i+1) t i) (i+1) a
def aX.enter(n:Nat)(args:List aa):aX:=⟨aX.hO .leaf 0 args,args.length+(n-args.length)⟩
def gp(P:Program)(C:aX)(H:ae):ResultVar->Option aa
 | .tmp t=>D (C.get t)
 | .cell a t=>ah P H t (C.get a)
def da(P:Program)(C:aX)(H:ae):List ResultVar->Option (List aa)
 |[]=>D []
 |r::rs=>match gp P C H r,da P C H rs with
  |some v,D a=>D (v::a)
  |_,_=>Y
def gm:List aa->aa
 |[v]=>v
 |a=> .tuple a
def nk(P:Program)(bd:ai)(N:Nat):Nat->ai
 |0,_,_,_=>Y
 |n+1,f,args,H=>match bd f args H with
 |some r=>D r
 |none=>match P.funcs[f]? with
  |none=>Y
  |some fn=>match fn.body with
   |none=>Y
   |some c=>match bU (c5 P (nk P bd N n)) N c (aX.enter fn.ntmps args) H with
    |none=>Y
    |some (ex,C,H')=>match ex with
     | .exit _=>Y
     |_=>match da P C H' fn.results.toList with
      |none=>Y
      |some a=>D (gm a,H')
section
variable {E:Env}{P:Program}{bd:ai}{call:ai}{cP:m7}{N:Nat}
def vv{ops:Array Oper}:∀{os:List Oper} {C aU:aX} {H H':ae},ds P call ops os C H=D (aU,H')->H.next<=H'.next
 |[],C,aU,H,H',h=>by
  simp only[ds,aV,bE]at h;obtain⟨rfl,rfl⟩:=h;exact bM _
 |aw::os,C,aU,H,H',h=>by
  simp only[ds]at h;split at h
  ·cases h
  ·rename_i k a;split at h
   ·cases h
   ·exact Nat.le_trans (sq a) (vv h)
def rG(cP:m7):Prop:=∀ops d C H aU H',cP ops d C H=D (aU,H')->H.next<=H'.next
def ys:rG (c5 P call):=by
 intro ops d C H aU H' h;unfold c5 at h;split at h
 ·exact vv h
 ·split at h
  ·cases h
  ·rename_i T b H1 a;split at h
   ·split at h
    ·cases h
    ·simp only[aV,bE]at h;obtain⟨rfl,rfl⟩:=h;rw[(dy a).2.1];exact(gu a).le
   ·split at h
    ·cases h
    ·split at h
     ·cases h
     ·simp only[aV,bE]at h;obtain⟨rfl,rfl⟩:=h;rw[(dy a).2.1];exact(gu a).le
def nx{f:aX->ae->Option (cB×aX×ae)}(a:∀C H ex aU H',f C H=D (ex,aU,H')->H.next<=H'.next):∀{n:Nat} {C:aX} {H:ae} {ex:cB} {aU:aX} {H':ae},
  iter f n C H=D (ex,aU,H')->H.next<=H'.next
 |0,_,_,_,_,_,h=>by cases h
 |n+1,C,H,ex,aU,H',h=>by
  simp only[iter]at h;split at h
  ·rename_i c H1 b;exact Nat.le_trans (a _ _ _ _ _ b) (nx a h)
  ·exact a _ _ _ _ _ h
def wG(m:rG cP):∀(c:Code) {C:aX} {H:ae} {ex:cB} {aU:aX} {H':ae},bU cP N c C H=D (ex,aU,H')->H.next<=H'.next:=by
 intro c
 induction c with
 |skip=>intro C H ex aU H' h;simp only[bU,aV,bE]at h;obtain⟨_,_,rfl⟩:=h;exact bM _
 |region id ops d=>
  intro C H ex aU H' h;simp only[bU]at h;split at h
  ·rename_i k H1 e;simp only[aV,bE]at h;obtain⟨_,_,rfl⟩:=h;exact m _ _ _ _ _ _ e
  ·cases h
 |seq a b i j=>
  intro C H ex aU H' h;simp only[bU]at h;split at h
  ·rename_i k H1 e;exact Nat.le_trans (i e) (j h)
  ·exact i h
 |cond c a b i j=>
  intro C H ex aU H' h;simp only[bU]at h;split at h
  ·exact i h
  ·exact j h
  ·cases h
 |block id b g=>
  intro C H ex aU H' h;simp only[bU]at h;split at h
  ·rename_i n k H1 e;have:=g e;split at h<;>(simp only[aV,bE]at h;obtain⟨_,_,rfl⟩:=h;exact this)
  ·exact g h
 |loop b g=>
  intro C H ex aU H' h;simp only[bU]at h;exact nx (λ_ _ _ _ _ h=>g h) h
 |exit id=>intro C H ex aU H' h;simp only[bU,aV,bE]at h;obtain⟨_,_,rfl⟩:=h;exact bM _
 |ret=>intro C H ex aU H' h;simp only[bU,aV,bE]at h;obtain⟨_,_,rfl⟩:=h;exact bM _
 |label l=>intro C H ex aU H' h;simp only[bU,aV,bE]at h;obtain⟨_,_,rfl⟩:=h;exact bM _
 |goto l=>intro C H ex aU H' h;cases h
 |scope b g=>intro C H ex aU H' h;cases h
 |rangeFunc f o a b i j=>intro C H ex aU H' h;cases h
 |refuse y=>intro C H ex aU H' h;cases h
def yC(q:bm E P call){ops:Array Oper}{Q:Exit->Act->World->Prop}:∀{os:List Oper} {C aU:aX} {H H':ae} {ρ:Env} {w:World} {a:Act},ds P call ops os C H=D (aU,H')->
  Rel ρ H w->cS E ρ H.next H'.next->bY ρ C a->(∀d bX c,bY d aU bX->Step ρ H w d H' c->Q .normal bX c)->wpList P ops Q os a w
 |[],C,aU,H,H',ρ,w,a,h,e,_,f,o=>by
  simp only[ds,aV,bE]at h;obtain⟨rfl,rfl⟩:=h;exact o ρ a w f (.refl e)
 |aw::os,C,aU,H,H',ρ,w,a,h,e,p,f,o=>by
  simp only[ds]at h;split at h
  ·cases h
  ·rename_i k s;split at h
   ·cases h
   ·rename_i ah y;have t:=vv h;have ai:=sq s;have go:∀x c d,a1 d k.val x->Step ρ H w d (k.heap H) c->wpList P ops Q os (a.put aw.dst x) c:=λx c d i n=>
     yC q h n.rel (p.after n) ((f.mono n.le).put y i) λad u ab j m=>o ad u ab j (n.trans m)
    unfold wpList;rw[wg f aw];rcases gG s with⟨hw,g⟩|⟨hw,rfl⟩
    ·rw[hw];simp only[if_true];refine .inl ?_;cases k with
     |skip=>exact g.elim
     |pure v=>exact yj g f λx i=>go x w ρ i (.refl e)
     |read v=>exact yr e g f λx i=>go x w ρ i (.refl e)
     |new v b=>
      have r:ρ H.next=none:=p.new _ (bM _) (by simp only[K.heap,ae.dO]at t;omega)
      refine xW g f r λx c d loc B M N O R S T W aa F G L=>go x c d B ?_
      have z:ca ρ H w (H.next+1) (λ_=>Y) ρ H w:=ca.start e λl j m=>by
       have:l=H.next:=bj
       rw[this];exact r
      have A:=z.early (bM _) bj rfl M N O R S T W aa F G L;exact(A.yU (b:=b) (by simp)).done rfl
     |br v af=>
      exact wE q e (p.left t) g f λx c d j m=>go x c d j m
    ·rw[hw];simp only[Bool.false_eq_true,if_false];exact go undef w ρ (.tuple [] [] .nil) (.refl e)
def vO(E:Env)(P:Program)(cP:m7):Prop:=∀(id:Nat) (ops:Array Oper) (d:Bool) (C:aX) (H:ae) (aU:aX) (H':ae),cP ops d C H=D (aU,H')->(d=V->fG ops (bA ops) (order ops)=V)->∀(ρ:Env) (w:World) (a:Act) (Q:Exit->Act->World->Prop),Rel ρ H w->cS E ρ H.next H'.next->bY ρ C a->(∀c bX b,bY c aU bX->Step ρ H w c H' b->Q .normal bX b)->(Code.region id ops d).wp P Q a w
def yt(hm:P.follows .mixedOrders=V)(e:bm E P call):vO E P (c5 P call):=by
 intro id ops d C H aU H' h k ρ w a Q c f i b;unfold c5 at h;split at h
 ·exact wp_region_list (yC e h c f i b)
 ·split at h
  ·cases h
  ·rename_i T p H1 j;split at h
   ·rename_i bX b5 n;split at h
    ·cases h
    ·rename_i g;simp only[aV,bE]at h;obtain⟨rfl,rfl⟩:=h;obtain⟨pre,mid,m⟩:=TE n;rw[Bool.and_eq_true]at g;exact TF hm e m j g.1 g.2 c f i b
   ·split at h
    ·cases h
    ·rename_i l;split at h
     ·cases h
     ·rename_i o;simp only[aV,bE]at h;obtain⟨rfl,rfl⟩:=h;exact Vd hm e ⟨j,k rfl,l,o⟩ c f i b
def Ve{c:Code}{Q:Exit->Act->World->Prop}(j:Nat->Act->World->Prop)(round:∀n a w,j n a w->∃m,n=m+1/\c.wp P (Exit.then (j m) Q) a w){n:Nat}{a:Act}{w:World}(t:j n a w):(Code.loop c).wp P Q a w:=by
 intro b k cs;have key:∀n a w,j n a w->∃e bX o,Q e bX o/\Arrives P (lone (b.at a (.code c:: .inLoop c::k)) cs w) b k cs e bX o:=by
  intro n
  induction n with
  |zero=>intro a w h;obtain⟨m,hm,_⟩:=round 0 a w h;omega
  |succ n u=>
   intro a w h;obtain⟨m,hm,hw⟩:=round _ a w h;obtain rfl:m=n:=bj;obtain⟨e,g,i,f,d⟩:=hw b (.inLoop c::k) cs;cases e with
   |normal=>
    obtain⟨q,p,v,s,r⟩:=u g i f;exact⟨q,p,v,s,.of_steps (Steps.trans d (.one step_inLoop)) r⟩
   |exit id=>exact⟨_,g,i,f,.pass (x:= .inLoop c) rfl (λ_ _=> .inl (by simp)) d⟩
   |goto l=>exact⟨_,g,i,f,.pass (x:= .inLoop c) rfl (λ_ _=> .inl (by simp)) d⟩
   |ret=>exact⟨_,g,i,f,.pass (x:= .inLoop c) rfl (λ_ _=> .inl (by simp)) d⟩
   |panic y=>exact⟨_,g,i,f,.pass (x:= .inLoop c) rfl (λ_ _=> .inl (by simp)) d⟩
   |outgrown=>exact⟨_,g,i,f,.pass (x:= .inLoop c) rfl (λ_ _=> .inl (by simp)) d⟩
 obtain⟨e,bX,o,f,d⟩:=key _ a w t;exact⟨e,bX,o,f,.of_steps (.one step_loop) d⟩
def rC(E:Env)(P:Program)(c:Code)(f:aX->ae->Option (cB×aX×ae)):Prop:=∀(C:aX) (H:ae) (ex:cB) (aU:aX) (H':ae),f C H=D (ex,aU,H')->∀(ρ:Env) (w:World) (a:Act) (Q:Exit->Act->World->Prop),Rel ρ H w->cS E ρ H.next H'.next->bY ρ C a->(∀d bX b,bY d aU bX->Step ρ H w d H' b->Q ex.r_ bX b)->c.wp P Q a w
def Ee{c:Code}{f:aX->ae->Option (cB×aX×ae)}(p:rC E P c f)(r:∀C H ex aU H',f C H=D (ex,aU,H')->H.next<=H'.next)(n:Nat):rC E P (.loop c) (iter f n):=by
 intro C H ex aU H' h ρ w a Q z q F y;refine Ve (n:=n) (λn g i=>∃j H1 e,iter f n j H1=D (ex,aU,H')/\Step ρ H w e H1 i/\bY e j g) ?_ ⟨C,H,ρ,h,.refl z,F⟩;rintro n g i ⟨j,H1,e,b,d,s⟩;cases n with
 |zero=>cases b
 |succ n=>
  refine⟨n,rfl,?_⟩;have hle:=nx r b;simp only[iter]at b;split at b
  ·rename_i v u x;have A:=nx r b;refine p _ _ _ _ _ x e i g _ d.rel (cS.left (cS.after q d) A) s λm o t k l=> ?_
   exact⟨v,u,m,b,d.trans l,k⟩
  ·rename_i B;refine p _ _ _ _ _ b e i g _ d.rel (cS.after q d) s λm o t k l=> ?_
   have:=y m o t k (d.trans l);cases ex with
   |normal=>exact absurd b (B _ _)
   |exit id=>exact this
   |ret=>exact this
def wI(G:rG cP)(R:vO E P cP):∀(c:Code),dP c=V->rC E P c (bU cP N c):=by
 intro c
 induction c with
 |skip=>
  intro _ C H ex aU H' h ρ w a Q i j e g;simp only[bU,aV,bE]at h;obtain⟨rfl,rfl,rfl⟩:=h;exact wp_skip (g ρ a w e (.refl i))
 |region id ops d=>
  intro k C H ex aU H' h ρ w a Q i j e g;simp only[bU]at h;split at h
  ·rename_i F H1 m;simp only[aV,bE]at h;obtain⟨rfl,rfl,rfl⟩:=h;exact R id ops d C H _ _ m (λO=>by subst O;exact k) ρ w a Q i j e g
  ·cases h
 |seq x y t u=>
  intro k C H ex aU H' h ρ w a Q i j e g;simp only[dP,Bool.and_eq_true]at k;simp only[bU]at h;refine wp_seq ?_;split at h
  ·rename_i F H1 m;have hle:=wG G y h;refine t k.1 _ _ _ _ _ m ρ w a _ i (j.left hle) e λr o q p n=> ?_
   exact u k.2 _ _ _ _ _ h r q o Q n.rel (j.after n) p λW K T L M=>g W K T L (n.trans M)
  ·rename_i B;refine t k.1 _ _ _ _ _ h ρ w a _ i j e λr o q p n=> ?_
   have:=g r o q p n;cases ex with
   |normal=>exact absurd h (B _ _)
   |exit id=>exact this
   |ret=>exact this
 |cond c x y t u=>
  intro k C H ex aU H' h ρ w a Q i j e g;simp only[dP,Bool.and_eq_true]at k;simp only[bU]at h;split at h
  ·rename_i v;have m:=bV e v;refine wp_cond_true (by generalize a.eval c=z at m;cases m;rfl) ?_;exact t k.1 _ _ _ _ _ h ρ w a Q i j e g
  ·rename_i v;have m:=bV e v;refine wp_cond_false (by generalize a.eval c=z at m;cases m;rfl) ?_;exact u k.2 _ _ _ _ _ h ρ w a Q i j e g
  ·cases h
 |block id b s=>
  intro k C H ex aU H' h ρ w a Q i j e g;simp only[bU]at h;refine wp_block ?_;split at h
  ·rename_i S F H1 m;split at h
   ·rename_i A;simp only[aV,bE]at h;obtain⟨rfl,rfl,rfl⟩:=h;refine s k _ _ _ _ _ m ρ w a _ i j e λr o q p n=> ?_
    have:=g r o q p n;simp only[cB.r_,Exit.inBlock,A,if_true];exact this
   ·rename_i A;simp only[aV,bE]at h;obtain⟨rfl,rfl,rfl⟩:=h;refine s k _ _ _ _ _ m ρ w a _ i j e λr o q p n=> ?_
    have:=g r o q p n;simp only[cB.r_,Exit.inBlock,A,if_false];exact this
  ·rename_i B;refine s k _ _ _ _ _ h ρ w a _ i j e λr o q p n=> ?_
   have:=g r o q p n;cases ex with
   |normal=>exact this
   |exit S=>exact absurd h (B _ _ _)
   |ret=>exact this
 |loop b s=>
  intro k C H ex aU H' h ρ w a Q i j e g;simp only[bU]at h;exact Ee (s k) (λ_ _ _ _ _ h=>wG G b h) N C H ex aU H' h ρ w a Q i j e g
 |exit id=>
  intro _ C H ex aU H' h ρ w a Q i j e g;simp only[bU,aV,bE]at h;obtain⟨rfl,rfl,rfl⟩:=h;exact wp_exit (g ρ a w e (.refl i))
 |ret=>
  intro _ C H ex aU H' h ρ w a Q i j e g;simp only[bU,aV,bE]at h;obtain⟨rfl,rfl,rfl⟩:=h;exact wp_ret (g ρ a w e (.refl i))
 |label l=>
  intro _ C H ex aU H' h ρ w a Q i j e g;simp only[bU,aV,bE]at h;obtain⟨rfl,rfl,rfl⟩:=h;exact wp_label (g ρ a w e (.refl i))
 |goto l=>intro _ C H ex aU H' h;cases h
 |scope b s=>intro _ C H ex aU H' h;cases h
 |rangeFunc f aa a b t u=>intro _ C H ex aU H' h;cases h
 |refuse y=>intro _ C H ex aU H' h;cases h
def sB:∀(args:List aa) (t:a6 aa) (i d:Nat),(aX.hO t i args).get d=if i<=d/\d<i+args.length then args[d-i]? else t.get d
 |[],t,i,d=>by simp only[aX.hO,List.length_nil];rw[if_neg bj]
 |v::c,t,i,d=>by
  simp only[aX.hO];rw[sB c];by_cases a:i+1<=d/\d<i+1+c.length
  ·rw[if_pos a,if_pos (by simp;omega),show d-i=(d-(i+1))+1 by omega];simp
  ·rw[if_neg a];by_cases b:d=i
   ·subst b;rw[a6.hI _ _ _ _ bj,if_pos (by simp)];simp
   ·rw[a6.gD _ _ _ _ _ (Ne.symm b),if_neg (by simp;omega)]
def wF{ρ:Env}{args:List aa}{xs:List Value}(h:bb ρ args xs)(n:Nat):bY ρ (aX.enter n args) {tmps:=xs.toArray++Array.replicate (n-xs.toArray.size) undef,defers:=[]}:=by
 have e:=h.length;refine⟨by simp[aX.enter,e],λd=> ?_,rfl⟩;unfold aX.get aX.enter;simp only
 rw[sB];rw[Array.getD_eq_getD_getElem?];by_cases c:d<args.length
 ·rw[if_pos bj];obtain⟨v,b⟩:∃v,args[d]? =D v:=⟨args[d],by simp[c]⟩;obtain⟨x,g,f⟩:=h.get d v b;have a:(xs.toArray++Array.replicate (n-xs.toArray.size) undef)[d]? =D x:=by
   rw[Array.getElem?_append_left (by simp;omega)];simpa using g
  rw[a];simp only[Nat.sub_zero,b,Option.getD_some];exact f
 ·rw[if_neg bj];have a:((xs.toArray++Array.replicate (n-xs.toArray.size) undef)[d]?).getD undef=undef:=by
   rw[Array.getElem?_append_right (by simp;omega)];simp only[Array.getElem?_replicate];split<;>rfl
  rw[a,a6.gB];exact .tuple [] [] .nil
def hZ(tmps:Array Value):ResultVar->Sem Value
 | .tmp t=>pure (tmps.getD t undef)
 | .cell b t=>do loadVar t (<-asAddr (tmps.getD b undef))
def zY{ρ:Env}{H:ae}{w:World}{C:aX}{a:Act}(k:Rel ρ H w)(f:bY ρ C a){r:ResultVar}{v:aa}(h:gp P C H r=D v):
  ∃x,(hZ a.tmps r).run P w= .ok x w/\a1 ρ v x:=by
 cases r with
 |tmp t=>
  simp only[gp,aV]at h;subst h;exact⟨_,rfl,f.get t⟩
 |cell b t=>
  simp only[gp]at h;obtain⟨x,g,j⟩:=rN k h (f.get b);refine⟨x,?_,j⟩;have d:=f.get b;simp only[hZ];generalize a.tmps.getD b undef=z at d g ⊢;have e:∃l i c,C.get b= .ptr l i c:=by
   generalize C.get b=u at h;unfold ah at h;cases u<;>first|exact⟨_,_,_,rfl⟩|(exfalso;simp at h)
  obtain⟨l,i,c,e⟩:=e;rw[e]at d;cases d;simpa [Instr.loadAt,Instr.sureAddr,asAddr]using g
def wb{ρ:Env}{H:ae}{w:World}{C:aX}{a:Act}(c:Rel ρ H w)(d:bY ρ C a):∀{rs:List ResultVar} {b:List aa},da P C H rs=D b->
  ∃xs:List Value,(rs.mapM (hZ a.tmps)).run P w= .ok xs w/\bb ρ b xs
 |[],b,h=>by simp only[da,aV]at h;subst h;exact⟨[],by simp[Sem.run_pure],.nil⟩
 |r::rs,b,h=>by
  simp only[da]at h;split at h
  ·rename_i v l j k;simp only[aV]at h;subst h;obtain⟨x,e,f⟩:=zY c d j;obtain⟨xs,g,i⟩:=wb c d k;refine⟨x::xs,?_,.cons _ _ _ _ f i⟩;rw[List.mapM_cons];simp only[Sem.run_bind,Result.andThen_ok,Sem.run_pure,e,g]
  ·cases h
def J8(fn:Func)(tmps:Array Value):results fn tmps=(do
  let a<-fn.results.mapM (hZ tmps)
  pure (if h:a.size=1 then a[0]else .tuple a)):=by
 unfold results
 congr 1
def yu{ρ:Env}{H:ae}{w:World}{C:aX}{a:Act}(j:Rel ρ H w)(k:bY ρ C a){fn:Func}{c:List aa}(h:da P C H fn.results.toList=D c):
  ∃x,(results fn a.tmps).run P w= .ok x w/\a1 ρ (gm c) x:=by
 obtain⟨xs,d,e⟩:=wb j k h;have hm:(fn.results.mapM (hZ a.tmps)).run P w= .ok xs.toArray w:=by
  rw[Array.mapM_eq_mapM_toList];simp only[Sem.run_map,d,Result.andThen_ok]
 refine⟨if h:xs.toArray.size=1 then xs.toArray[0]else .tuple xs.toArray,?_,?_⟩
 ·rw[J8];simp only[Sem.run_bind,hm,Result.andThen_ok,Sem.run_pure]
 ·cases e with
  |nil=>exact .tuple [] [] .nil
  |cons v x m p b f=>
   cases f with
   |nil=>exact b
   |cons l o n q g i=>
    simp only[gm];rw[dif_neg (by simp)];exact .tuple _ _ (.cons _ _ _ _ b (.cons _ _ _ _ g i))
structure dg(P:Program):Prop where
 mixed:P.follows .mixedOrders=true
 names:∀fn∈P.funcs,(fn.name== "runtime.NumGoroutine")=false
 yi:∀(f:Nat) (fn:Func) (c:Code),P.funcs[f]? =some fn->fn.body=some c->dP c=true
def wJ(a:dg P)(j:bm E P bd):∀n,bm E P (nk P bd N n)
 |0=>λg args H v H' h=>by cases h
 |n+1=>by
  intro g args H v H' h ρ w xs k m l y next o
  simp only[nk]at h;split at h
  ·rename_i r B;cases h;exact j g args H v H' B ρ w xs k m l y next o
  split at h
  ·cases h
  ·rename_i fn b;split at h
   ·cases h
   ·rename_i c e;split at h
    ·cases h
    ·rename_i ex C H1 t;have K:=wJ a j n;have s:=wI (N:=N) ys (yt a.mixed K) c (a.yi _ _ _ b e);have z:(fn.name== "runtime.NumGoroutine")=false:=a.names fn (Array.mem_of_getElem? b);have F:(callFunc g xs.toArray).run P w= .ok (.enter g xs.toArray) w:=by
      unfold callFunc;simp[b,e];intro u;simp[u]at z
     unfold eF;rw[F];simp only
     split at h
     ·cases h
     ·rename_i A;split at h
      ·cases h
      ·rename_i O G;simp only[aV,bE]at h;obtain⟨rfl,rfl⟩:=h;refine calls_of_wp b e (s _ _ _ _ _ t ρ w _ _ k m (wF l fn.ntmps) λM bX L d i=> ?_);obtain⟨x,f,q⟩:=yu i.rel d G;have p:=o x L M q i;cases ex with
       |normal=>exact⟨d.none,x,f,p⟩
       |ret=>exact⟨d.none,x,f,p⟩
       |exit id=>exact absurd rfl (A id)
end
section
variable {E:Env}{P:Program}{bd:ai}
def ho(P:Program)(bd:ai)(f:Nat)(args:List aa)(H:ae)(r:aa×ae):Prop:=∃k,∀N,k<=N->∀n,k<=n->nk P bd N n f args H=D r
def ho.uniq{f:Nat}{args:List aa}{H:ae}{r s:aa×ae}(h:ho P bd f args H r)(bs:ho P bd f args H s):r=s:=by
 obtain⟨k,c⟩:=h;obtain⟨j,b⟩:=bs;have a:=c (max k j) (Nat.le_max_left ..) (max k j) (Nat.le_max_left ..);rw[b (max k j) (Nat.le_max_right ..) (max k j) (Nat.le_max_right ..)]at a;exact(Option.some.inj a).symm
open Classical in
noncomputable def gz(P:Program)(bd:ai):ai:=λf args H=>if h:∃r,ho P bd f args H r then D h.choose else Y
def AN{f:Nat}{args:List aa}{H:ae}{r:aa×ae}(h:gz P bd f args H=D r):ho P bd f args H r:=by
 unfold gz at h;split at h
 ·rename_i a;rw[<-Option.some.inj h];exact a.choose_spec
 ·cases h
def AO(b:dg P)(a:bm E P bd):bm E P (gz P bd):=by
 intro g args H v H' h;obtain⟨k,c⟩:=AN h;exact wJ b a k g args H v H' (c k (bM _) k (bM _))
