/-
  Texts of one proof, laid together: Hv16 Hv18 Hv17 Hv21.
-/
import Derived.Test.YtmhhnnklfcbgfaaGreatMC
set_option linter.unusedVariables false
set_option linter.unusedSimpArgs false
set_option linter.defProp false
open Option renaming some→D,none→I
open Bool renaming true→C,false→Z
namespace Go.bo
section
variable {E:Env}{P:Program}{call:an}{ops:Array Oper}{ord:List Nat}{c9 cy:bl}{H0 cZ:ad}{T:List bN}{ρ0:Env}{w0:World}{Q:Exit->Act->World->Prop}
def Ctx.uniq(c:Ctx P call ops ord c9 H0 T cy cZ){A B:List bN}{t:bN}(h:T=A++t::B){u:bN}(hu:u∈T)(he:u.i=t.i):u=t:=by
 rw[h]at hu;rcases List.mem_append.1 hu with hu|hu
 ·exact absurd he (c.before h hu).1
 ·rcases List.mem_cons.1 hu with rfl|hu
  ·rfl
  ·exact absurd he.symm (c.after h hu).1
def yN(H0:ad)(T:List bN)(N:Nat)(ρ0:Env)(w0:World)(L:Nat->Bool)(ρ:Env)(w:World)(T1 T2:List bN):Prop:=T=T1++T2/\(∀t∈T1,t.k.eu=C->L t.i=C)/\(∀t∈T2,(∃v H,t.k= .cF v H)->L t.i=Z)/\eY ρ0 H0 w0 N (dH L T2 (cB T1 H0)) ρ (cB T1 H0) w
def Ctx.next(c:Ctx P call ops ord c9 H0 T cy cZ){A B:List bN}{t:bN}(h:T=A++t::B){b:Array Bool}(E:b.size=ops.size)(aA:sg ops (cR b))(az:cR b t.i=Z)
  (hw:jw (cR b) t.o) {ρ:Env} {f:bl} {a:Act} {x:Value} {w:World} (M:dO ρ f a) (G:f.size=c9.size) (N:∀d,f.get d=eV (cR b) d T (c9.get d)) (aD:bB ρ t.k.val x) {T1 T2:List bN}
  (m:yN H0 T cZ.next ρ0 w0 (cR (b.setIfInBounds t.i C)) ρ w T1 T2):Inv ops c9 H0 T cZ.next ρ0 w0 (b.setIfInBounds t.i C) (a.put t.o.dst x) w:=by
 obtain⟨a7,_,_,H⟩:=c.at h;have v:t.i<b.size:=by rw[E];exact(Array.getElem?_eq_some_iff.1 a7).1
 have r:cR (b.setIfInBounds t.i C) t.i=true:=by rw[l4 v];simp
 have g:∀j,j≠t.i->cR (b.setIfInBounds t.i C) j=cR b j:=λj p=>by rw[l4 v];simp[p]
 have z:∀j,cR b j=C->cR (b.setIfInBounds t.i C) j=true:=λj p=>by
  by_cases e:j=t.i
  ·rw[e];exact r
  ·rw[g j e];exact p
 have L:∃bm,f.put t.o.dst t.k.val=D bm:=by
  cases K:t.o.dst with
  |none=>exact⟨f,rfl⟩
  |some d=>
   have:=H d K;exact⟨{f with t:=bJ.put t.k.val (d+1) f.t d},by simp only[bl.put];rw[if_pos (by rw[G];exact this)]⟩
 obtain⟨bm,l⟩:=L;refine⟨by simpa using E,λi o n u e he s=> ?_,ρ,T1,T2,m.1,m.2.1,m.2.2.1,m.2.2.2,bm,M.put l aD,by rw[bl.size_put l,G],λd=> ?_⟩
 ·by_cases q:i=t.i
  ·subst q;rw[a7]at n;cases n;exact z _ (hw e he s)
  ·rw[g i q]at u;exact z _ (aA i o n u e he s)
 ·rw[bl.p0 l d,c.J1 h aA az r g d,N d]
def Ctx.norm(c:Ctx P call ops ord c9 H0 T cy cZ){N:Nat}{L:Nat->Bool}{ρ:Env}{w:World}:∀{T2 T1:List bN},yN H0 T N ρ0 w0 L ρ w T1 T2->
  ∃n g,yN H0 T N ρ0 w0 L ρ w n g/\∀u e,g=u::e->u.k.eu=C/\L u.i=Z
 |[],T1,m=>⟨T1,[],m,λu e h=>by cases h⟩
 |u::T2,T1,m=>by
  by_cases f:u.k.eu=C/\L u.i=Z
  ·exact⟨T1,u::T2,m,λp e h=>by simp only[List.cons.injEq]at h;rw[<-h.1];exact f⟩
  ·obtain⟨ae,ah,ak,au⟩:=m;have l:=pL c.dp;rw[ae]at l;have o:=(eJ.append l).2;have eU:=eY.turns (zC:=[u]) (zD:=T2) (L:=L) o (λv a d=>by
    have:v=u:=by simpa using a
    subst this;have az:L v.i=true:=by
     cases a:L v.i with
     |true=>rfl
     |false=>exact absurd ⟨d,a⟩ f
    refine⟨az,?_⟩;cases j:v.k with
    |new x b=>exact⟨x,b,rfl⟩
    |cF x H=>rw[ak v (by simp) ⟨x,H,j⟩]at az;cases az
    |_=>rw[j]at d;cases d) au
   rw[<-jK]at eU;refine c.norm (T2:=T2) (T1:=T1++[u]) ⟨by rw[ae];simp,λv a d=> ?_,λv a=>ak v (by simp[a]),eU⟩;rcases List.mem_append.1 a with a|a
   ·exact ah v a d
   ·have:v=u:=by simpa using a
    subst this;cases a:L v.i with
    |true=>rfl
    |false=>exact absurd ⟨d,a⟩ f
def AF{L:Nat->Bool}{u:bN}{v:aa}{b:bL}(hu:u.k= .new v b)(d:L u.i=C):∀{zC zD:List bN} {H:ad},eJ H (zC++u::zD)->dH L (zC++u::zD) H (cB zC H).next=D b
 |[],zD,H,_=>by simp[dH,hu,d,cB]
 |c::zC,zD,H,hm=>by
  have a:=AF hu d (zC:=zC) (zD:=zD) hm.2;have hle:∀{zC:List bN} {H:ad},eJ H zC->H.next<=(cB zC H).next:=by
   intro zC
   induction zC with
   |nil=>intro H _;exact b4 _
   |cons x zC g=>intro H h;exact Nat.le_trans h.1 (g h.2)
  by_cases aS:∃v b,c.k= .new v b
  ·obtain⟨j,b',e⟩:=aS;have ah:=hle (eJ.append hm.2).1;have f:=hm.2;rw[e]at ah f a;simp only[K.heap,ad.ds]at ah a;simp only[List.cons_append,dH,e,cB,K.heap];rw[if_neg ai];exact a
  ·rw[List.cons_append,qb λv b h=>aS ⟨v,b,h⟩,cB];exact a
def zB{l:Nat}:∀{zC:List bN} {H:ad},(∀x∈zC,l9 x.k=C)->l<H.next->(cB zC H).get l=H.get l
 |[],H,_,_=>rfl
 |c::zC,H,a,az=>by
  have d:=a c (by simp);rw[cB];cases e:c.k with
  |new v b=>
   rw[zB (λx aD=>a x (by simp[aD])) (by simp only[K.heap,ad.ds];omega)];exact ad.eN ai
  |cF v H'=>rw[e]at d;cases d
  |_=>exact zB (λx aD=>a x (by simp[aD])) az
def Rel.QF{ρ:Env}{H:ad}{w:World}{b:bL}(h:b≠ .dead->∃loc,ρ H.next=D loc/\ib ρ w loc b):Rel ρ (H.push b).only w where
 row l ro esz els a:=by
  obtain⟨rfl,rfl⟩:=ad.s6 a;obtain⟨loc,ae,ah⟩:=h (by intro e;cases e);exact⟨loc,ae,ah⟩
 map l es a:=by
  obtain⟨rfl,rfl⟩:=ad.s6 a;obtain⟨loc,ae,ah⟩:=h (by intro e;cases e);exact⟨loc,ae,ah⟩
 dz l t esz els a:=by
  obtain⟨rfl,rfl⟩:=ad.s6 a;obtain⟨loc,ae,ah⟩:=h (by intro e;cases e);exact⟨loc,ae,ah⟩
 apart l f loc i ae ah g _ _:=by
  exfalso;have c:∃x,(H.push b).only.get l=D x:=by
   unfold ad.rw at ae;cases a:(H.push b).only.get l with
   |none=>simp[a]at ae
   |some x=>exact⟨x,rfl⟩
  have d:∃x,(H.push b).only.get f=D x:=by
   unfold ad.live at ah;cases a:(H.push b).only.get f with
   |none=>simp[a]at ah
   |some x=>exact⟨x,rfl⟩
  obtain⟨x,c⟩:=c;obtain⟨y,d⟩:=d;exact g ((ad.s6 c).1.trans (ad.s6 d).1.symm)
def count_set{n i fuel:Nat}{a:Array Bool}(d:i<a.size)(f:i<n)(az:cR a i=Z)(g:(List.range n).countP (λj=> !cR a j)<=fuel+1):(List.range n).countP (λj=> !cR (a.setIfInBounds i C) j)<=fuel:=by
 have c:cR (a.setIfInBounds i C) i=true:=by rw[l4 d];simp
 have:=Dn (p:=λj=> !cR a j) (q:=λj=> !cR (a.setIfInBounds i C) j) (i:=i) (l:=List.range n) (by simpa using f)
  (λj b=>by
   by_cases e:j=i
   ·rw[e,c]at b;cases b
   ·rw[l4 d,if_neg e]at b;exact b) (by simp[az]) (by simp[c])
 omega
def Ctx.step(c:Ctx P call ops ord c9 H0 T cy cZ)(bp:dT E P call)(bl:E.le ρ0){p:Array Bool}{a:Act}{w:World}(n:Inv ops c9 H0 T cZ.next ρ0 w0 p a w){i:Nat}{o:Oper}(a7:ops[i]? =D o)(az:cR p i=Z)(hw:jw (cR p) o)(a_:i<ops.size)
  {hX:Act->World->Prop} (aO:∀ck aI,Inv ops c9 H0 T cZ.next ρ0 w0 (p.setIfInBounds i C) ck aI->hX ck aI):wpOp P ops Q i hX a w:=by
 have bb:=c.AI;simp only[ou,Bool.and_eq_true,List.all_eq_true,List.mem_range]at bb;have ba:=bb.1 i a_;rw[List.contains_iff_mem,<-(iT c.dp).1,List.mem_map]at ba;obtain⟨t,V,rfl⟩:=ba;have bC:=c.mem V;obtain rfl:t.o=o:=Option.some.inj (bC.symm.trans a7);obtain⟨ρ,T1,T2,G,ap,aq,m,aW,ab,aV,aH⟩:=n.mid;have bc:t.i<p.size:=by rw[n.size];exact a_
 have aE:cR (p.setIfInBounds t.i C) t.i=true:=by rw[l4 bc];simp
 have O:∀j,j≠t.i->cR (p.setIfInBounds t.i C) j=cR p j:=λj bu=>by rw[l4 bc];simp[bu]
 obtain⟨aK,aA,q⟩:=List.append_of_mem V;have a9:∀d∈t.o.looksAt ops,aW.get d=t.R.get d:=λd br=>by rw[aH d];exact c.looks q n.closed hw az d br
 have aG:=KS a9;have bD:Region.wanted t.o (yielded ops a.tmps)=hG ops t.R t.o:=(CA ab t.o).trans (KU a9);unfold wpOp;rw[a7];simp only[bD];have still:t.k.eu=Z->∀x,bB ρ t.k.val x->hX (a.put t.o.dst x) w:=by
  intro g x aD;refine aO _ _ (c.next q n.size n.closed az hw ab aV aH aD (T1:=T1) (T2:=T2) ⟨G,λu hu aa=> ?_,λu hu af=> ?_,?_⟩)
  ·have:=ap u hu aa;by_cases e:u.i=t.i
   ·rw[e];exact aE
   ·rw[O _ e];exact this
  ·have al:u.i≠t.i:=λe=>by
    have:=c.uniq q (by rw[G];simp[hu]) e;subst this;obtain⟨v,H,z⟩:=af;rw[z]at g;cases g
   rw[O _ al];exact aq u hu af
  ·rw[s8 (L':=cR p) λu hu v b z=>O _ λe=>by
    have:=c.uniq q (by rw[G];simp[hu]) e;subst this;rw[z]at g;cases g]
   exact m
 rcases p5 (c.at q).2.2.1 with⟨am,z⟩|⟨am,z⟩
 ·rw[am];simp only[if_true];refine .inl ?_;have aX:t.k.eu=C->∃zC zD,T2=zC++t::zD:=λg=>by
   rw[G]at V;rcases List.mem_append.1 V with V|V
   ·have:=ap t V g;rw[az]at this;cases this
   ·exact List.append_of_mem V
  have aj:=pL c.dp;cases f:t.k with
  |skip=>rw[f]at z;exact z.elim
  |pure v=>
   rw[f]at z;have U:=kU.congr (λx aD=>(aG x aD).symm) z;exact Gh U ab λx aD=>still (by rw[f];rfl) x (by rw[f];exact aD)
  |read v=>
   obtain⟨aC,aM,⟨f1,f2,f3,f4⟩,f5⟩:=c.norm (ρ0:=ρ0) (w0:=w0) (N:=cZ.next) (L:=cR p) (ρ:=ρ) (w:=w) (T2:=T2) (T1:=T1) ⟨G,ap,aq,m⟩;have aF:∃aL,Rel ρ aL w/\gD P t.o.op t.R aL=D v:=by
    rcases Jo f c.iJ V with bs|bz
    ·
      refine⟨_,f4.rel,?_⟩;have a4:gD P t.o.op t.R (cB aK H0)=D v:=by
       rcases p5 (c.at q).2.2.1 with⟨_,a3⟩|⟨aD,_⟩
       ·rw[f]at a3;exact a3
       ·rw[am]at aD;cases aD
      have a2:∀u∈T,u.k.eu=C->u.i≠t.i/\(cV (cO ops) u.i t.i=C\/cV (cO ops) t.i u.i=C):=λu hu g=>by
       have al:u.i≠t.i:=λe=>by
        have:=c.uniq q hu e;subst this;rw[f]at g;cases g
       obtain⟨bV,bW,ae⟩:=List.append_of_mem hu;refine⟨al,aaG bs ?_ al (c.at ae).1 (EG (c.at ae).2.2.1 g)⟩;rw[<-(iT c.dp).1,List.mem_map];exact⟨u,hu,rfl⟩
      have bw:∀u∈aK,u.k.eu=C->cR p u.i=true:=λu hu g=>by
       rcases(a2 u (by rw[q];simp[hu]) g).2 with ae|ae
       ·exact kh n.closed _ _ a7 hw _ ae
       ·have:=(c.before q hu).2.1;rw[ae]at this;cases this
      have bt:∀u∈aA,u.k.eu=C->cR p u.i=false:=λu hu g=>by
       have bd:u∈T:=by rw[q];simp[hu]
       rcases(a2 u bd g).2 with ae|ae
       ·have:=(c.after q hu).2.1;rw[ae]at this;cases this
       ·cases Y:cR p u.i with
        |false=>rfl
        |true=>
         have ax:=c.mem bd;have:=kh n.closed _ _ ax (n.closed _ _ ax Y) _ ae;rw[az]at this;cases this
      have aU:aC++aM=aK++t::aA:=by rw[<-f1,<-q]
      rcases List.append_eq_append_iff.1 aU with⟨ck,ar,aP⟩|⟨aN,ag,W⟩
      ·cases ck with
       |nil=>rw[List.append_nil]at ar;rw[<-ar];exact a4
       |cons u bh=>
        obtain⟨S,M⟩:=f5 u (bh++t::aA) aP;have:=bw u (by rw[ar];simp) S;rw[M]at this;cases this
      ·have bA:∀(zX:List bN) (H:ad),(∀u∈zX,u.k.eu=Z)->cB zX H=H:=by
        intro zX
        induction zX with
        |nil=>intro H _;rfl
        |cons u zX bF=>intro H aY;rw[cB,wc (aY u (by simp))];exact bF H λu hu=>aY u (by simp[hu])
       rw[ag,jK,bA aN _ ?_]
       ·exact a4
       ·intro u hu;cases g:u.k.eu with
        |false=>rfl
        |true=>
         have ae:=f2 u (by rw[ag];simp[hu]) g;have ah:u∈t::aA:=by rw[W];simp[hu]
         rcases List.mem_cons.1 ah with rfl|ah
         ·rw[f]at g;cases g
         ·have:=bt u ah g;rw[ae]at this;cases this
    ·rcases ZE bz with be|bx
     rotate_left
     ·obtain⟨A,u,B,bT,b,S,M,bi,bj,bk⟩:=Fx bx;refine⟨_,Rel.QF λav=> ?_,Gs bk⟩;have Y:=kh n.closed _ _ a7 hw _ bi;have aU:aC++aM=A++u::B:=by rw[<-f1,<-S]
      rcases List.append_eq_append_iff.1 aU with⟨ck,ar,aP⟩|⟨aN,ag,W⟩
      ·have aT:=f4.iA (cB A H0).next b (by
        rw[f1]at aj;have r:=(eJ.append aj).2;rw[aP]at r ⊢;rw[ar,jK];exact AF M Y r)
       obtain⟨_,_,_,loc,ay,ao,_⟩:=aT;exact⟨loc,ay,ao⟩
      ·cases aN with
       |nil=>
        have aT:=f4.iA (cB A H0).next b (by
         rw[f1]at aj;have r:=(eJ.append aj).2;rw[List.nil_append]at W;rw[List.append_nil]at ag;rw[<-W]at r ⊢;rw[ag]at r ⊢;exact AF (zC:=[]) M Y r)
        obtain⟨_,_,_,loc,ay,ao,_⟩:=aT;exact⟨loc,ay,ao⟩
       |cons x bX=>
        simp only[List.cons_append,List.cons.injEq]at W;obtain⟨rfl,W⟩:=W;have aQ:(cB aC H0).get (cB A H0).next=D b:=by
         rw[ag,jK,cB,M];rw[zB (λx aD=>bj x (by rw[W];simp[aD])) (by simp[K.heap])];exact ad.bq _ b
        cases b with
        |row ro esz els=>exact f4.rel.row _ _ _ _ aQ
        |map es=>exact f4.rel.map _ _ aQ
        |dz t esz els=>exact f4.rel.dz _ _ _ _ aQ
        |dead=>exact absurd rfl av
     refine⟨_,f4.rel,?_⟩;rw[show fk (cO ops) (iB P t.o.op t.R v) t.i T H0=fk (cO ops) (iB P t.o.op t.R v) t.i (aC++aM) H0 by rw[<-f1]]at be;exact Gs (BJ be (λu hu aa=>by
      cases av:cV (cO ops) t.i u.i with
      |false=>rfl
      |true=>
       have ax:=c.mem (t:=u) (by rw[f1];simp[hu]);have:=kh n.closed _ _ ax (n.closed _ _ ax (f2 u hu aa)) _ av;rw[az]at this;cases this) (λu bg hu=>by
      obtain⟨S,M⟩:=f5 u bg hu;refine⟨S,?_⟩;cases av:cV (cO ops) u.i t.i with
      |false=>rfl
      |true=>
       have:=kh n.closed _ _ a7 hw _ av;rw[M]at this;cases this))
   obtain⟨aL,bE,aF⟩:=aF;rw[<-Co aG]at aF;exact Gt bE aF ab λx aD=>still (by rw[f];rfl) x (by rw[f];exact aD)
  |new v b=>
   obtain⟨zC,zD,s⟩:=aX (by rw[f];rfl);have ae:T=(T1++zC)++t::zD:=by rw[G,s];simp
   have aR:=(c.at ae).2.2.1;rcases p5 aR with⟨_,aw⟩|⟨aD,_⟩
   ·rw[f]at aw;have U:=kU.congr (λx aD=>(aG x aD).symm) aw;have r:eJ (cB T1 H0) (zC++t::zD):=by
     have:=aj;rw[G,s]at this;exact(eJ.append this).2
    obtain⟨ay,ao⟩:=Ga (L:=cR p) (L':=cR (p.setIfInBounds t.i C)) f az aE r
     (λu hu=>(O _ (c.before ae (by simp[hu])).1).symm) (λu hu=>(O _ (Ne.symm (c.after ae hu).1)).symm)
    have a1:(cB T1 H0).next<=(cB zC (cB T1 H0)).next:=(eJ.append r).1.le
    have a6:(cB zC (cB T1 H0)).next<cZ.next:=by
     have ah:=(eJ.append r).2;have ak:=ah.2.le;rw[f]at ak;have au:cZ=cB zD (K.heap (cB zC (cB T1 H0)) (.new v b)):=by
      rw[(iT c.dp).2.1,ae,jK,jK,cB,f]
     rw[au];simp only[K.heap,ad.ds]at ak ⊢;omega
    rw[s]at m;have bv:iO P t.o.op aW (cB zC (cB T1 H0)).next=D (v,b):=by rw[<-jK];exact U
    refine Fz bv ab (m.fresh _ a1 a6 ao) λx aI bU loc bH bf bL bM bO bP bQ bR bS bI bJ bK=> ?_
    have eU:=m.early a1 a6 ao bf bL bM bO bP bQ bR bS bI bJ bK;rw[<-ay]at eU;refine aO _ _ (c.next q n.size n.closed az hw (ab.mono bf) aV aH (by rw[f];exact bH) (T1:=T1) (T2:=zC++t::zD) ⟨by rw[G,s],λu hu aa=> ?_,λu hu af=> ?_,eU⟩)
    ·have:=ap u hu aa;by_cases e:u.i=t.i
     ·rw[e];exact aE
     ·rw[O _ e];exact this
    ·have al:u.i≠t.i:=λe=>by
      have:=c.uniq q (by rw[G,s];simp at hu ⊢;exact .inr hu) e;subst this;obtain⟨bT,H,U⟩:=af;rw[f]at U;cases U
     rw[O _ al];exact aq u (by rw[s];exact hu) af
   ·rw[am]at aD;cases aD
  |cF v H'=>
   obtain⟨zC,zD,s⟩:=aX (by rw[f];rfl);have ae:T=(T1++zC)++t::zD:=by rw[G,s];simp
   have aR:=(c.at ae).2.2.1;rcases p5 aR with⟨_,aw⟩|⟨aD,_⟩
   ·rw[f]at aw;have U:=kU.congr (λx aD=>(aG x aD).symm) aw;have r:eJ (cB T1 H0) (zC++t::zD):=by
     have:=aj;rw[G,s]at this;exact(eJ.append this).2
    have a0:=c.cF;rw[ae]at a0;have aZ:=(vR a0 f).2;rw[s]at m;have an:=eY.turns (zC:=zC) (zD:=t::zD) (L:=cR p) r (λu hu g=>by
     have Y:=kh n.closed _ _ a7 hw _ (aZ u (by simp[hu]) g);refine⟨Y,?_⟩;cases a5:u.k with
     |new x b=>exact⟨x,b,rfl⟩
     |cF x H=>rw[aq u (by rw[s];simp[hu]) ⟨x,H,a5⟩]at Y;cases Y
     |_=>rw[a5]at g;cases g) m
    rw[qb (λv b h=>by rw[f]at h;cases h),f]at an;simp only[K.heap]at an;have aS:eJ H' zD:=by have:=(eJ.append r).2.2;rw[f]at this;exact this
    have bn:cZ=cB zD H':=by rw[(iT c.dp).2.1,ae,jK,cB,f];rfl
    have bo:H'.next<=cZ.next:=by rw[bn];exact aS.le
    rw[jK]at U;refine Du (H:=cB zC (cB T1 H0)) (H':=H') bp an.rel ⟨λl S M=>an.fresh l S ai ?_,Env.le_trans bl an.le⟩ U ab λx aI bU S M=> ?_
    ·cases a8:dH (cR p) zD H' l with
     |none=>rfl
     |some b=>have:=s9 aS a8;omega
    ·have bG:=an.step M bo (λl b a8=>s9 aS a8);refine aO _ _ (c.next q n.size n.closed az hw (ab.mono M.le) aV aH (by rw[f];exact S) (T1:=T1++zC++[t]) (T2:=zD) ⟨by rw[ae];simp,λu hu aa=> ?_,λu hu af=> ?_,?_⟩)
     ·by_cases e:u.i=t.i
      ·rw[e];exact aE
      ·rw[O _ e];simp only[List.mem_append,List.mem_singleton]at hu;rcases hu with(hu|hu)|rfl
       ·exact ap u hu aa
       ·exact kh n.closed _ _ a7 hw _ (aZ u (by simp[hu]) aa)
       ·exact absurd rfl e
     ·rw[O _ (Ne.symm (c.after ae hu).1)];exact aq u (by rw[s];simp[hu]) af
     ·have bm:cB (T1++zC++[t]) H0=H':=by rw[jK,cB,f];rfl
      rw[bm,s8 (L':=cR p) λu hu v b z=>O _ (Ne.symm (c.after ae hu).1)];exact bG
   ·rw[am]at aD;cases aD
 ·rw[am];simp only[Bool.false_eq_true,if_false];exact still (by rw[z];rfl) undef (by rw[z];exact .tuple [] [] .nil)
def Ctx.any(c:Ctx P call ops ord c9 H0 T cy cZ)(p:dT E P call)(m:E.le ρ0)(n:∀ρ a w,dO ρ cy a->Step ρ0 H0 w0 ρ cZ w->Q .normal a w):
  ∀(fuel:Nat) (b:Array Bool) (a:Act) (w:World),Inv ops c9 H0 T cZ.next ρ0 w0 b a w->(List.range ops.size).countP (λj=> !cR b j)<=fuel->wpAny P .any ops Q fuel b a w:=by
 have l:∀b a w,Inv ops c9 H0 T cZ.next ρ0 w0 b a w->Region.ready .any ops b=[]->Q .normal a w:=by
  intro b a w d e;obtain⟨ρ,ae,ah⟩:=c.final d (c.Ca d.size e);exact n ρ a w ae ah
 intro fuel
 induction fuel with
 |zero=>
  intro b a w d k;have e:Region.ready .any ops b=[]:=by
   rw[List.eq_nil_iff_forall_not_mem];intro i f;obtain⟨o,ae,ah,ak,au⟩:=mf f d.size;have r:0<(List.range ops.size).countP (λj=> !cR b j):=List.countP_pos_iff.2 ⟨i,by simpa using au,by simp[ah]⟩;omega
  exact⟨e,l _ _ _ d e⟩
 |succ fuel q=>
  intro b a w d k;refine⟨λe=>l _ _ _ d e,λi f=> ?_⟩;obtain⟨o,a7,az,hw,g⟩:=mf f d.size;exact c.step p m d a7 az hw g λck s h=>q _ _ _ h (count_set (by rw[d.size];exact g) g az k)
def abv{id:Nat}{a:Act}{w:World}(hm:P.follows .mixedOrders=C)(m:dT E P call)(c:Ctx P call ops ord c9 H0 T cy cZ)(k:Rel ρ0 H0 w)(aN:ha E ρ0 H0.next cZ.next)(p:dO ρ0 c9 a)
  (g:∀ρ a e,dO ρ cy a->Step ρ0 H0 w ρ cZ e->Q .normal a e):(Code.region id ops C).wp P Q a w:=by
 have b:∀j,cR (Array.replicate ops.size Z) j=false:=λj=>by
  unfold cR;rw[Array.getD_eq_getD_getElem?];by_cases h:j<ops.size<;>simp[h]
 refine wp_region_any hm (c.any (ρ0:=ρ0) (w0:=w.drew) m aN.le (λρ a e ae ah=>g ρ a e ae ?_) _ _ _ _ ⟨by simp,λi o _ az=>absurd az (by rw[b];simp),ρ0,[],T,rfl,by simp,λt _ _=>b _,?_,c9,p,rfl,λd=> ?_⟩ ?_)
 ·exact⟨ah.le,ah.next,ah.keep,ah.rel,ah.os,ah.tape,ah.output,ah.size,ah.frame,ah.own,ah.ro⟩
 ·have n:dH (cR (Array.replicate ops.size Z)) T (cB [] H0)=λ_=>none:=by
   have:∀(T:List bN) (H:ad),dH (cR (Array.replicate ops.size Z)) T H=λ_=>none:=by
    intro T
    induction T with
    |nil=>intro H;rfl
    |cons t T f=>
     intro H
     funext l
     unfold dH;split
     ·rw[f,b];simp
     ·rw[f]
   exact this T _
  rw[n];exact eY.start k.drew aN.new
 ·rw[tf λt _ _=>b _]
 ·refine Nat.le_trans List.countP_le_length ?_;simp
end
def bJ.AK{α:Type}(x y:α):∀(p q:List j_) (t:bJ α),p≠q->bJ.ec x p (bJ.ec y q t)=bJ.ec y q (bJ.ec x p t)
 |[],[],_,h=>absurd rfl h
 |[],d::q,.leaf,_=>by cases d<;>simp[bJ.ec]
 |[],d::q,.node ..,_=>by cases d<;>simp[bJ.ec]
 |d::p,[],.leaf,_=>by cases d<;>simp[bJ.ec]
 |d::p,[],.node ..,_=>by cases d<;>simp[bJ.ec]
 |d::p,e::q,.leaf,h=>by
  by_cases a:d=e
  ·subst a;have f:=bJ.AK x y p q .leaf (λb=>h (by rw[b]));cases d<;>simp[bJ.ec,f]
  ·cases d<;>cases e<;>first|exact absurd rfl a|simp[bJ.ec]
 |d::p,e::q,.node v g i j k l m n o,h=>by
  by_cases a:d=e
  ·subst a;have f:=λc=>bJ.AK x y p q c (λb=>h (by rw[b]))
   cases d<;>simp[bJ.ec,f]
  ·cases d<;>cases e<;>first|exact absurd rfl a|simp[bJ.ec]
def ad.set_comm{H:ad}{l m:Nat}{b c:bL}(h:l≠m):(H.set l b).set m c=(H.set m c).set l b:=by
 simp only[ad.set,bJ.put];rw[bJ.AK _ _ _ _ _ (λe=>h (F_ e).symm)]
section
variable {E:Env}{P:Program}{call:an}{ops:Array Oper}{ord:List Nat}{c9 cy:bl}{H0 cZ:ad}{T:List bN}{ρ0:Env}{w0:World}{Q:Exit->Act->World->Prop}
def fb(ops:Array Oper)(b a:Nat):Array Oper:=ops.mapIdx λi o=>if i=b then {o with after:=o.after.push ⟨a,default⟩}else o
def hA(b a i:Nat)(o:Oper):Oper:=if i=b then {o with after:=o.after.push ⟨a,default⟩}else o
def ig(ops:Array Oper)(b a i:Nat):(fb ops b a)[i]? =(ops[i]?).map (hA b a i):=by
 simp only[fb,Array.getElem?_mapIdx];rfl
def jx(ops:Array Oper)(b a:Nat):(fb ops b a).size=ops.size:=by simp[fb]
def lG(b a i:Nat)(o:Oper):(hA b a i o).op=o.op/\(hA b a i o).dst=o.dst/\(hA b a i o).guard=o.guard:=by unfold hA;split<;>exact⟨rfl,rfl,rfl⟩
def yC{b a i:Nat}{o:Oper}{L:Nat->Bool}(h:jw L o)(c:i=b->L a=C):jw L (hA b a i o):=by
 unfold hA;split
 ·rename_i e;intro x aD d;simp only[Array.mem_push]at aD;rcases aD with aD|rfl
  ·exact h x aD d
  ·exact c e
 ·exact h
def BH{b a i:Nat}{o:Oper}{L:Nat->Bool}(h:jw L (hA b a i o)):jw L o:=by
 unfold hA at h;split at h
 ·intro x aD c;exact h x (by simp[aD]) c
 ·exact h
def KT(b a i:Nat)(R:bl)(o:Oper):hG (fb ops b a) R (hA b a i o)=hG ops R o:=by
 unfold hG;rw[(lG b a i o).2.2];cases o.guard with
 |none=>rfl
 |some p=>
  obtain⟨j,want⟩:=p;simp only[ig];cases c:ops[j]? with
  |none=>rfl
  |some q=>simp only[Option.map_some,(lG b a j q).2.1]
def hB(b a:Nat)(t:bN):bN:=⟨t.i,hA b a t.i t.o,t.R,t.k⟩
def zb(b a:Nat):∀(is:List Nat) (R:bl) (H:ad),canRun P call (fb ops b a) is R H=(canRun P call ops is R H).map λp=>(p.1.map (hB b a),p.2)
 |[],_,_=>rfl
 |i::is,R,H=>by
  simp only[canRun,ig];cases a7:ops[i]? with
  |none=>rfl
  |some o=>
   simp only[Option.map_some];have c:e2 P call (fb ops b a) (hA b a i o) R H=e2 P call ops o R H:=by
    unfold e2;rw[KT,(lG b a i o).1]
   rw[c,(lG b a i o).2.1];cases e2 P call ops o R H with
   |none=>rfl
   |some k=>
    simp only
    cases R.put o.dst k.val with
    |none=>rfl
    |some bm=>
     simp only
     rw[zb b a is bm (k.heap H)];cases canRun P call ops is bm (k.heap H)with
     |none=>rfl
     |some p=>rfl
def sz(a:List Nat):∀(is:List Nat) (R:bl) (H:ad),canRun P call ops (is++a) R H=(canRun P call ops is R H).bind λp=>(canRun P call ops a p.2.1 p.2.2).map λq=>(p.1++q.1,q.2)
 |[],R,H=>by
  simp only[List.nil_append,canRun,Option.bind_some];cases canRun P call ops a R H<;>rfl
 |i::is,R,H=>by
  simp only[List.cons_append,canRun];cases ops[i]? with
  |none=>rfl
  |some o=>
   simp only
   cases e2 P call ops o R H with
   |none=>rfl
   |some k=>
    simp only
    cases R.put o.dst k.val with
    |none=>rfl
    |some bm=>
     simp only
     rw[sz a is bm (k.heap H)];cases canRun P call ops is bm (k.heap H)with
     |none=>rfl
     |some p=>
      simp only[Option.bind_some];cases canRun P call ops a p.2.1 p.2.2<;>rfl
def BM{b a i:Nat}{K:Act->World->Prop}{c:Act}{w:World}(h:wpOp P (fb ops b a) Q i K c w):wpOp P ops Q i K c w:=by
 unfold wpOp at h ⊢;rw[ig]at h;have d:yielded (fb ops b a) c.tmps=yielded ops c.tmps:=by
  funext j
  unfold yielded;rw[ig];cases ops[j]? with
  |none=>rfl
  |some q=>simp only[Option.map_some,Option.bind_some,(lG b a j q).2.1]
 rw[d]at h;cases a7:ops[i]? with
 |none=>rw[a7]at h;exact h
 |some o=>
  rw[a7]at h;simp only[Option.map_some]at h;unfold hA at h;split at h<;>exact h
def AM{b a:Nat}{d:Array Bool}(c:d.size=ops.size)(e:cR d a=C){i:Nat}:i∈Region.ready .any (fb ops b a) d↔i∈Region.ready .any ops d:=by
 constructor
 ·intro h;obtain⟨o,ae,ah,ak,au⟩:=mf h (by rw[jx];exact c);rw[ig]at ae;obtain⟨q,a8,rfl⟩:=Option.map_eq_some_iff.1 ae;exact xa a8 ah (BH ak) c
 ·intro h;obtain⟨o,ae,ah,ak,au⟩:=mf h c;exact xa (by rw[ig,ae];rfl) ah (yC ak λ_=>e) (by rw[jx];exact c)
def BL{b a:Nat}:∀(fuel:Nat) {f:Array Bool} {c:Act} {w:World},f.size=ops.size->cR f a=C->wpAny P .any (fb ops b a) Q fuel f c w->wpAny P .any ops Q fuel f c w
 |0,f,c,w,d,g,h=>by
  refine⟨?_,h.2⟩;rw[List.eq_nil_iff_forall_not_mem];intro i e;have:=(AM (b:=b) d g).2 e;rw[h.1]at this;simp at this
 |fuel+1,f,c,w,d,g,h=>by
  refine⟨λj=>h.1 ?_,λi e=> ?_⟩
  ·rw[List.eq_nil_iff_forall_not_mem];intro i e;have:=(AM d g).1 e;rw[j]at this;simp at this
  ·refine wpOp_mono (λk l ca=>BL fuel (by simpa using d) ?_ ca) (BM (h.2 i ((AM d g).2 e)));obtain⟨o,_,_,_,au⟩:=mf e d;rw[l4 (by rw[d];exact au)];split
   ·rfl
   ·exact g
def iK(c9:bl)(H0:ad)(T:List bN)(N:Nat)(ρ0:Env)(w0:World)(L:Nat->Bool)(a:Act)(w:World):Prop:=∃ρ T1 T2,T=T1++T2/\(∀t∈T1,t.k.eu=C->L t.i=C)/\(∀t∈T2,(∃v H,t.k= .cF v H)->L t.i=Z)/\ eY ρ0 H0 w0 N (dH L T2 (cB T1 H0)) ρ (cB T1 H0) w/\∃b:bl,dO ρ b a/\b.size=c9.size/\∀d,b.get d=eV L d T (c9.get d)
def zE(b a:Nat):∀(T:List bN) (H:ad),cB (T.map (hB b a)) H=cB T H
 |[],_=>rfl
 |t::T,H=>zE b a T (t.k.heap H)
def w4(b a:Nat)(L:Nat->Bool):∀(T:List bN) (H:ad),dH L (T.map (hB b a)) H=dH L T H
 |[],_=>rfl
 |t::T,H=>by
  funext l
  simp only[List.map_cons,dH,hB];cases c:t.k with
  |new v eG=>simp only[w4 b a L T (H.push eG)]
  |_=>exact congrFun (w4 b a L T _) l
def AO(b a:Nat)(L:Nat->Bool)(d:Nat):∀(T:List bN) (v:aa),eV L d (T.map (hB b a)) v=eV L d T v
 |[],_=>rfl
 |t::T,v=>by
  simp only[List.map_cons,eV,hB,(lG b a t.i t.o).2.1];exact AO b a L d T _
def iK.up{b a:Nat}{N:Nat}{L:Nat->Bool}{c:Act}{w:World}(h:iK c9 H0 T N ρ0 w0 L c w):iK c9 H0 (T.map (hB b a)) N ρ0 w0 L c w:=by
 obtain⟨ρ,T1,T2,rfl,ae,ah,ak,g,i,j,k⟩:=h;refine⟨ρ,T1.map (hB b a),T2.map (hB b a),by simp,λt f e=> ?_,λt f e=> ?_,?_,g,i,j,λd=> ?_⟩
 ·obtain⟨u,hu,rfl⟩:=List.mem_map.1 f;exact ae u hu e
 ·obtain⟨u,hu,rfl⟩:=List.mem_map.1 f;exact ah u hu e
 ·rw[zE,w4];exact ak
 ·rw[AO];exact k d
def iK.down{b a:Nat}{N:Nat}{L:Nat->Bool}{c:Act}{w:World}(h:iK c9 H0 (T.map (hB b a)) N ρ0 w0 L c w):iK c9 H0 T N ρ0 w0 L c w:=by
 obtain⟨ρ,T1,T2,e,ae,ah,ak,i,l,m,n⟩:=h;obtain⟨j,k,rfl,rfl,rfl⟩:=List.map_eq_append_iff.1 e;refine⟨ρ,j,k,rfl,λt g f=>ae (hB b a t) (List.mem_map.2 ⟨t,g,rfl⟩) f,λt g f=>ah (hB b a t) (List.mem_map.2 ⟨t,g,rfl⟩) f,?_,i,l,m,λd=> ?_⟩
 ·rw[zE,w4]at ak;exact ak
 ·have:=n d;rwa[AO]at this
def AG{L:Nat->Bool}:∀{zD:List bN} {H:ad},(∀t∈zD,∀v b,t.k≠ .new v b)->dH L zD H=λ_=>I
 |[],_,_=>rfl
 |t::zD,H,h=>by
  rw[qb (h t (by simp))];exact AG λu hu=>h u (by simp[hu])
def AE{L:Nat->Bool}{zD D':List bN}(h:∀t∈zD,∀v b,t.k≠ .new v b)(ca:∀t∈D',∀v b,t.k≠ .new v b):∀{zC:List bN} {H:ad},dH L (zC++zD) H=dH L (zC++D') H
 |[],H=>by rw[List.nil_append,List.nil_append,AG h,AG ca]
 |t::zC,H=>by
  funext l
  simp only[List.cons_append,dH];cases a:t.k with
  |new v eG=>simp only[AE h ca (zC:=zC) (H:=H.push eG)]
  |_=>exact congrFun (AE h ca (zC:=zC)) l
def iK.swap{A M:List bN}{ta tb ta2 tb2:bN}{N:Nat}{L:Nat->Bool}{c:Act}{w:World}(r:∀t∈M,t.k.eu=Z)(m:∃v H,ta.k= .cF v H)(p:∃v H,tb.k= .cF v H)(n:∃v H,ta2.k= .cF v H)(q:∃v H,tb2.k= .cF v H)
  (Q:ta2.i=ta.i) (R:tb2.i=tb.i) (B:ta.o.dst=I) (G:tb.o.dst=I) (E:ta2.o.dst=I) (K:tb2.o.dst=I) (dc:L ta.i=Z) (S:L tb.i=Z) (h:iK c9 H0 (A++ta::(M++[tb])) N ρ0 w0 L c w):iK c9 H0 (A++(M++[tb2,ta2])) N ρ0 w0 L c w:=by
 obtain⟨ρ,T1,T2,e,ae,ah,ak,z,T,U,V⟩:=h;obtain⟨af,W,m⟩:=m;obtain⟨ai,ab,p⟩:=p;obtain⟨ag,Y,n⟩:=n;obtain⟨aj,ad,q⟩:=q;obtain⟨zC,O,P⟩:∃zC,A=T1++zC/\T2=zC++ta::(M++[tb]):=by
  rcases List.append_eq_append_iff.1 e with⟨x,j,g⟩|⟨x,j,g⟩
  ·cases x with
   |nil=>rw[List.append_nil]at j;exact⟨[],by rw[j,List.append_nil],by rw[List.nil_append]at g;rw[<-g,List.nil_append]⟩
   |cons y x=>
    simp only[List.cons_append,List.cons.injEq]at g;obtain⟨rfl,_⟩:=g;have:=ae ta (by rw[j];simp) (by rw[m];rfl);rw[dc]at this;cases this
  ·exact⟨x,j,g⟩
 subst O;subst P;have u:∀t∈M,∀v b,t.k≠ .new v b:=λt a v b e=>by have:=r t a;rw[e]at this;cases this
 refine⟨ρ,T1,zC++(M++[tb2,ta2]),by simp,ae,λt a s=> ?_,?_,z,T,U,λd=> ?_⟩
 ·simp only[List.mem_append,List.mem_cons,List.not_mem_nil,or_false]at a;rcases a with a|a|rfl|rfl
  ·exact ah t (by simp[a]) s
  ·obtain⟨v,H,e⟩:=s;have:=r t a;rw[e]at this;cases this
  ·rw[R];exact S
  ·rw[Q];exact dc
 ·rw[AE (D':=ta::(M++[tb]))]
  ·exact ak
  ·intro t a v b f;simp only[List.mem_append,List.mem_cons,List.not_mem_nil,or_false]at a;rcases a with a|rfl|rfl
   ·exact u t a v b f
   ·rw[q]at f;cases f
   ·rw[n]at f;cases f
  ·intro t a v b f;simp only[List.mem_append,List.mem_cons,List.not_mem_nil,or_false]at a;rcases a with rfl|a|rfl
   ·rw[m]at f;cases f
   ·exact u t a v b f
   ·rw[p]at f;cases f
 ·rw[V d];have aS:∀{x:aa} {t:bN},t.o.dst=I->∀{l:List bN},eV L d (t::l) x=eV L d l x:=λa=>by
   intro l;simp only[eV,a];rw[if_neg (by simp)]
  rw[ld,ld,ld,ld,aS B,ld,ld,aS G,aS K,aS E]
def abu{a b:Nat}{ab ad:List Nat}{T1 T2:List bN}{A:bl}(T:a≠b)(m:Ctx P call (fb ops b a) ab c9 H0 T1 cy cZ)(B:Ctx P call (fb ops a b) ad c9 H0 T2 A cZ)(r:dT E P call)(n:E.le ρ0)
  (Y:∀L c w,L a=Z->L b=Z->iK c9 H0 T1 cZ.next ρ0 w0 L c w->iK c9 H0 T2 cZ.next ρ0 w0 L c w) (S:A=cy) (u:∀ρ a w,dO ρ cy a->Step ρ0 H0 w0 ρ cZ w->Q .normal a w):
  ∀(fuel:Nat) (d:Array Bool) (c:Act) (w:World),Inv (fb ops b a) c9 H0 T1 cZ.next ρ0 w0 d c w->cR d a=Z->cR d b=Z->(List.range ops.size).countP (λj=> !cR d j)<=fuel->wpAny P .any ops Q fuel d c w:=by
 subst S;have K:∀d c w,Inv (fb ops b a) c9 H0 T1 cZ.next ρ0 w0 d c w->Region.ready .any ops d=[]->Q .normal c w:=by
  intro d c w f k;have g:d.size=ops.size:=by have:=f.size;rwa[jx]at this
  have W:Region.ready .any (fb ops b a) d=[]:=by
   rw[List.eq_nil_iff_forall_not_mem];intro i l;obtain⟨o,ae,ah,ak,au⟩:=mf l f.size;rw[ig]at ae;obtain⟨q,a8,rfl⟩:=Option.map_eq_some_iff.1 ae;have:=xa a8 ah (BH ak) g;rw[k]at this;simp at this
  obtain⟨ρ,ae,ah⟩:=m.final f (m.Ca f.size W);exact u ρ c w ae ah
 intro fuel
 induction fuel with
 |zero=>
  intro d c w f _ _ H;have g:d.size=ops.size:=by have:=f.size;rwa[jx]at this
  have k:Region.ready .any ops d=[]:=by
   rw[List.eq_nil_iff_forall_not_mem];intro i l;obtain⟨o,ae,ah,ak,au⟩:=mf l g;have af:0<(List.range ops.size).countP (λj=> !cR d j):=List.countP_pos_iff.2 ⟨i,by simpa using au,by simp[ah]⟩;omega
  exact⟨k,K _ _ _ f k⟩
 |succ fuel aa=>
  intro d c w f dc O H;have g:d.size=ops.size:=by have:=f.size;rwa[jx]at this
  refine⟨λk=>K _ _ _ f k,λi l=> ?_⟩;obtain⟨o,a7,az,hw,s⟩:=mf l g;have N:i<d.size:=by rw[g];exact s
  have v:=count_set N s az H;have p:∀j,cR (d.setIfInBounds i C) j=if j=i then C else cR d j:=λj=>l4 N j
  by_cases t:i=b
  ·
    subst t;have U:Inv (fb ops a i) c9 H0 T2 cZ.next ρ0 w0 d c w:=by
     refine⟨by rw[jx];exact g,λj q M x=> ?_,Y _ _ _ dc O f.mid⟩;rw[ig]at M;obtain⟨ag,V,rfl⟩:=Option.map_eq_some_iff.1 M;have R:=f.closed j _ (by rw[ig,V];rfl) x;refine yC (BH R) λe=> ?_
     subst e;rw[dc]at x;cases x
    refine BM (b:=a) (a:=i) (B.step r n U (by rw[ig,a7];rfl) az (yC hw λe=>absurd e.symm T) (by rw[jx];exact s) λck z h=> ?_);refine BL fuel (by simpa using g) (by rw[p,if_pos rfl]) (B.any r n u fuel _ ck z h ?_);rw[jx];exact v
  ·refine BM (b:=b) (a:=a) (m.step r n f (by rw[ig,a7];rfl) az (yC hw λe=>absurd e t) (by rw[jx];exact s) λck z h=> ?_);by_cases G:i=a
   ·subst G;refine BL fuel (by simpa using g) (by rw[p,if_pos rfl]) (m.any r n u fuel _ ck z h ?_);rw[jx];exact v
   ·exact aa _ _ _ h (by rw[p,if_neg (Ne.symm G)];exact dc) (by rw[p,if_neg (Ne.symm t)];exact O) v
def hS(ops:Array Oper)(a:Nat):Option (TypeId×Operand×Operand):=match ops[a]? with
 |some o=>(match o.op,o.guard,o.dst with
  | .store t x y,I,I=>D (t,x,y)
  |_,_,_=>I)
 |none=>I
def lW(ms:List Nat)(ops:Array Oper):List Nat->List Nat->Bool
 |[],_=>C
 |i::is,ids=>match ops[i]? with
  |some o=>(match cls o.op with
   | .new=>lW ms ops is (i::ids)
   | .write=>ids.all (λj=>cV ms j i)&&lW ms ops is (i::ids)
   | .call=>ids.all (λj=>cV ms j i)&&lW ms ops is (i::ids)
   |_=>lW ms ops is ids)
  |none=>C
def Gr(ops:Array Oper)(ord:List Nat)(a b:Nat):Bool:=ord.all λi=>match ops[i]? with
 |some o=>(match cls o.op with
  | .read=>cV (cO ops) i a&&(cV (cO ops) i b&& !cV (cO ops) a i)
  | .both=>cV (cO ops) i a&&(cV (cO ops) i b&& !cV (cO ops) a i)
  |_=>C)
 |none=>C
def w2(ops:Array Oper)(ord:List Nat):Bool:=ou ops (cO ops) ord&&lW (cO ops) ops ord []
def Z3{o:Op}{R:bl}{H:ad}{v:aa}{H':ad}(h:gz P call o R H=D (.cF v H')):cls o= .write\/cls o= .call:=by
 unfold gz at h;split at h
 ·unfold k6 at h;split at h<;>cases h
 ·unfold km at h;split at h<;>cases h
 ·split at h
  ·cases h
  ·unfold km at h;split at h<;>cases h
 ·unfold wy at h;split at h<;>cases h
 ·rename_i aA;exact .inl aA
 ·rename_i aA;exact .inr aA
def Z5{o:Op}{R:bl}{H:ad}{v:aa}{b:bL}(h:gz P call o R H=D (.new v b)):cls o= .new:=by
 unfold gz at h;split at h
 ·unfold k6 at h;split at h<;>cases h
 ·unfold km at h;split at h<;>cases h
 ·split at h
  ·cases h
  ·unfold km at h;split at h<;>cases h
 ·rename_i aA;exact aA
 ·unfold i_ at h;split at h
  ·split at h<;>cases h
  ·cases h
 ·split at h
  ·split at h
   ·unfold i_ at h;split at h
    ·split at h<;>cases h
    ·cases h
   ·cases h
  ·cases h
def Z7{o:Op}{R:bl}{H:ad}{v:aa}(h:gz P call o R H=D (.read v)):cls o= .read\/cls o= .both:=by
 unfold gz at h;split at h
 ·unfold k6 at h;split at h<;>cases h
 ·rename_i aA;exact .inl aA
 ·rename_i aA;exact .inr aA
 ·unfold wy at h;split at h<;>cases h
 ·unfold i_ at h;split at h
  ·split at h<;>cases h
  ·cases h
 ·split at h
  ·split at h
   ·unfold i_ at h;split at h
    ·split at h<;>cases h
    ·cases h
   ·cases h
  ·cases h
def zO{o:Oper}{R:bl}{H:ad}{k:K}(h:e2 P call ops o R H=D k)(a:k≠ .skip):gz P call o.op R H=D k:=by
 unfold e2 at h;split at h
 ·exact h
 ·simp only[bn]at h;exact absurd h.symm a
def pS{ms:List Nat}:∀{is:List Nat} {R:bl} {H:ad} {T:List bN} {bm:bl} {H':ad} {ids e:List Nat},canRun P call ops is R H=D (T,bm,H')->lW ms ops is ids=C->(∀j∈e,j∈ids)->hI ms T e=C
 |[],R,H,T,bm,H',ids,e,h,_,_=>by
  simp only[canRun,bn,cM]at h;rw[<-h.1];rfl
 |i::is,R,H,T,bm,H',ids,e,h,c,d=>by
  simp only[canRun]at h;split at h
  ·cases h
  ·rename_i o a7;split at h
   ·cases h
   ·rename_i k n;split at h
    ·cases h
    ·rename_i r _;split at h
     ·cases h
     ·rename_i T1 s p f;simp only[bn,cM]at h;obtain⟨rfl,rfl,rfl⟩:=h;simp only[lW,a7]at c;have sub:∀j∈i::e,j∈i::ids:=λj a=>by
       rcases List.mem_cons.1 a with rfl|a
       ·simp
       ·simp[d j a]
      have t:∀j∈e,j∈i::ids:=λj a=>by simp[d j a]
      have aY:∃g,lW ms ops is g=C/\(∀j∈ids,j∈g):=by
       split at c
       ·exact⟨_,c,λj a=>by simp[a]⟩
       ·simp only[Bool.and_eq_true]at c;exact⟨_,c.2,λj a=>by simp[a]⟩
       ·simp only[Bool.and_eq_true]at c;exact⟨_,c.2,λj a=>by simp[a]⟩
       ·exact⟨_,c,λj a=>a⟩
      simp only[hI];cases k with
      |cF v q=>
       have aA:=Z3 (zO n (by simp));simp only[Bool.and_eq_true];rcases aA with aA|aA<;>
       ·rw[aA]at c;simp only[Bool.and_eq_true,List.all_eq_true]at c;refine⟨?_,pS f c.2 sub⟩;rw[List.all_eq_true];exactλj a=>c.1 j (d j a)
      |new v b=>
       have aA:=Z5 (zO n (by simp));rw[aA]at c;exact pS f c sub
      |pure v=>obtain⟨g,l,m⟩:=aY;exact pS f l λj a=>m j (d j a)
      |read v=>obtain⟨g,l,m⟩:=aY;exact pS f l λj a=>m j (d j a)
      |skip=>obtain⟨g,l,m⟩:=aY;exact pS f l λj a=>m j (d j a)
def nN(P:Program)(ms:List Nat)(a:Nat->Bool)(T:List bN)(H:ad):List bN->Bool
 |[]=>C
 |t::ts=>(match t.k with
  | .read v=>a t.i||fk ms (iB P t.o.op t.R v) t.i T H
  |_=>C)&&nN P ms a T H ts
def Jr{ms:List Nat}{a:Nat->Bool}{T:List bN}{H:ad}{t:bN}{v:aa}(b:t.k= .read v):∀{ts:List bN},nN P ms a T H ts=C->t∈ts->a t.i=C\/fk ms (iB P t.o.op t.R v) t.i T H=C
 |[],_,hm=>by simp at hm
 |u::ts,h,hm=>by
  simp only[nN,Bool.and_eq_true]at h;rcases List.mem_cons.1 hm with rfl|hm
  ·have:=h.1;rw[b]at this;simpa using this
  ·exact Jr b h.2 hm
def Jp{ms:List Nat}{a:Nat->Bool}{T:List bN}{H:ad}:∀{ts:List bN},(∀t∈ts,∀v,t.k= .read v->a t.i=C\/fk ms (iB P t.o.op t.R v) t.i T H=C)->jq P ms a T H ts=C
 |[],_=>rfl
 |t::ts,h=>by
  simp only[jq,Bool.and_eq_true];refine⟨?_,Jp λu hu=>h u (by simp[hu])⟩;cases b:t.k with
  |read v=>
   simp only[Bool.or_eq_true];refine(h t (by simp) v b).imp id λhw=> ?_
   unfold pc;cases lV ms t.i T Z with
   |true=>rw[gG,hw];rfl
   |false=>rw[jF,hw]
  |_=>rfl
def Dp{ops:Array Oper}{ord:List Nat}(h:w2 ops ord=C)(dp:canRun P call ops ord c9 H0=D (T,cy,cZ))(hw:∀t∈T,∀v,t.k= .read v->g9 ops (cO ops) ord t.i=C\/fk (cO ops) (iB P t.o.op t.R v) t.i T H0=C):Ctx P call ops ord c9 H0 T cy cZ:=by
 unfold w2 at h;simp only[Bool.and_eq_true]at h;exact⟨dp,h.1,pS dp h.2 λj a=>a,Jp hw⟩
def Tc{ord:List Nat}(dp:canRun P call ops ord c9 H0=D (T,cy,cZ)){t:bN}(b:t∈T){v:aa}(e:t.k= .read v):t.i∈ord/\ops[t.i]? =D t.o/\(cls t.o.op= .read\/cls t.o.op= .both):=by
 obtain⟨A,B,d⟩:=List.append_of_mem b;obtain⟨c,_,a,_⟩:=vI (by rw[<-d];exact dp);rw[e]at a;exact⟨by rw[<-(iT dp).1,List.mem_map];exact⟨t,b,rfl⟩,c,Z7 (zO a (by simp))⟩
def zl{acc:List Nat}{j:Nat}{e:Edge}:∀{es:List Edge},e∈es->Region.binds .any e=C->(acc[e.on]?.getD 0).testBit j=C->(iq acc es).testBit j=C
 |[],h,_,_=>by simp at h
 |d::es,h,a,b=>by
  unfold iq;rcases List.mem_cons.1 h with rfl|h
  ·rw[if_pos a];simp[b]
  ·split
   ·simp[zl h a b]
   ·exact zl h a b
def P5(ops:Array Oper):(cO ops).length=ops.size:=by
 have hlen:∀(os:List Oper) (acc:List Nat),(jb os acc).length=acc.length+os.length:=by
  intro os
  induction os with
  |nil=>intro acc;simp[jb]
  |cons o os a=>intro acc;simp[jb,a];omega
 unfold cO;rw[hlen];simp
def vE(b a:Nat):∀(i j:Nat),cV (cO ops) j i=C->cV (cO (fb ops b a)) j i=true:=by
 intro i
 induction i using Nat.strongRecOn with
 |_ i g=>
  intro j c;cases a7:ops[i]? with
  |none=>
   unfold cV at c;have:ops.size<=i:=by simpa using a7
   rw[List.getElem?_eq_none (by rw[P5];exact this)]at c;simp at c
  |some o=>
   unfold cV at c ⊢;rw[wP a7]at c;rw[wP (show(fb ops b a)[i]? =D (hA b a i o) by rw[ig,a7];rfl)];simp only[Option.getD_some]at c ⊢;obtain⟨e,ae,ah,ak⟩:=vP c;have f:e∈(hA b a i o).after.toList:=by
    unfold hA;split
    ·simp;exact .inl (by simpa using ae)
    ·exact ae
   rcases ak with rfl|ak
   ·exact vQ f ah
   ·refine zl f ah ?_;rcases Nat.lt_or_ge e.on i with d|h
    ·rw[List.getElem?_take_of_lt d]at ak ⊢;exact g e.on d j ak
    ·rw[List.getElem?_eq_none (by simp;omega)]at ak;simp at ak
def IP{b a:Nat}{ord c:List Nat}{i:Nat}(h:g9 ops (cO ops) ord i=C)(e:∀j∈c,j∈ord):g9 (fb ops b a) (cO (fb ops b a)) c i=true:=by
 unfold g9 at h ⊢;rw[List.all_eq_true]at h ⊢;intro j d;have ae:=h j (e j d);simp only[Bool.or_eq_true,beq_iff_eq]at ae ⊢;rcases ae with((ae|ae)|ae)|ae
 ·exact .inl (.inl (.inl ae))
 ·refine .inl (.inl (.inr ?_));rw[ig];cases a7:ops[j]? with
  |none=>rfl
  |some o=>rw[a7]at ae;simp only[Option.map_some,(lG b a j o).1];exact ae
 ·exact .inl (.inr (vE b a _ _ ae))
 ·exact .inr (vE b a _ _ ae)
def yE{ms ms':List Nat}{b a:Nat}(hm:∀i j,cV ms j i=C->cV ms' j i=C){rd:ad->Bool}{i:Nat}:∀{T:List bN} {H:ad},fk ms rd i T H=C->fk ms' rd i (T.map (hB b a)) H=C
 |[],H,h=>h
 |t::T,H,h=>by
  simp only[List.map_cons,fk,hB]at h ⊢;split at h
  ·rename_i c;rw[if_pos c];simp only[Bool.and_eq_true,Bool.or_eq_true]at h ⊢;exact⟨h.1.imp (hm _ _) id,h.2.imp (hm _ _) (yE hm)⟩
  ·rename_i c;rw[if_neg c];exact yE hm h
def BK{ms:List Nat}{rd:ad->Bool}{i:Nat}{ta tb:bN}{zX W M:List bN}(b:ta.k.eu=C)(c:tb.k.eu=C)(a:∀t∈M,t.k.eu=Z)(ae:cV ms ta.i i=Z)(ah:cV ms i tb.i=C):∀{A:List bN} {H:ad},fk ms rd i (A++ta::zX) H=C->fk ms rd i (A++(M++tb::W)) H=C
 |[],H,h=>by
  simp only[List.nil_append,fk,b,if_true,ae,Bool.false_or,Bool.and_eq_true]at h;have key:∀{M:List bN},(∀t∈M,t.k.eu=Z)->fk ms rd i (M++tb::W) H=true:=by
   intro M
   induction M with
   |nil=>intro _;simp only[List.nil_append,fk,c,if_true,h.1,ah,Bool.or_true,Bool.true_or,Bool.and_self]
   |cons t M e=>
    intro a;simp only[List.cons_append,fk];rw[if_neg (by rw[a t (by simp)];simp)];exact e λu hu=>a u (by simp[hu])
  exact key a
 |t::A,H,h=>by
  simp only[List.cons_append,fk]at h ⊢;split at h
  ·rename_i d;rw[if_pos d];simp only[Bool.and_eq_true,Bool.or_eq_true]at h ⊢;exact⟨h.1,h.2.imp id (BK b c a ae ah)⟩
  ·rename_i d;rw[if_neg d];exact BK b c a ae ah h
def AJ(ops:Array Oper)(xs:List Operand)(i:Nat):Bool:=match ops[i]? with
 |some o=>(match cls o.op,o.guard,o.dst with
  | .pure,I,D d=>xs.all λx=>match x with
   | .tmp t=>t != d
   |_=>C
  | .pure,I,I=>C
  |_,_,_=>Z)
 |none=>Z
def CV{xs:List Operand}:∀{is:List Nat} {R:bl} {H:ad} {M:List bN} {c:bl} {g:ad},is.all (AJ ops xs)=C->canRun P call ops is R H=D (M,c,g)->g=H/\(∀t∈M,t.k.eu=Z)/\(∀H',canRun P call ops is R H'=D (M,c,H'))/\∀x∈xs,cb c x=cb R x
 |[],R,H,M,c,g,_,h=>by
  simp only[canRun,bn,cM]at h;obtain⟨rfl,rfl,rfl⟩:=h;exact⟨rfl,λt b=>by simp at b,λH'=>rfl,λ_ _=>rfl⟩
 |i::is,R,H,M,c,g,p,h=>by
  simp only[List.all_cons,Bool.and_eq_true]at p;obtain⟨a,B⟩:=p;simp only[canRun]at h;split at h
  ·cases h
  ·rename_i o a7;unfold AJ at a;rw[a7]at a;simp only at a;have A:cls o.op= .pure/\o.guard=I/\∀d,o.dst=D d->∀x∈xs,∀t,x= .tmp t->t≠d:=by
    split at a
    ·rename_i d aA l e;refine⟨aA,l,λw f x aD t b=> ?_⟩;rw[e]at f;cases f;rw[List.all_eq_true]at a;have:=a x aD;rw[b]at this;simpa using this
    ·rename_i aA l e;exact⟨aA,l,λw f=>by rw[e]at f;cases f⟩
    ·cases a
   obtain⟨r,s,u⟩:=A;have n:∀H',e2 P call ops o R H'=k6 (hF P o.op R):=λH'=>by
    unfold e2 hG;rw[s];simp only[gz,r]
   rw[n]at h;cases j:hF P o.op R with
   |none=>rw[j]at h;cases h
   |some v=>
    rw[j]at h;simp only[k6]at h;split at h
    ·cases h
    ·rename_i q m;split at h
     ·cases h
     ·rename_i T1 S Q E;simp only[bn,cM]at h;obtain⟨rfl,rfl,rfl⟩:=h;obtain⟨G,L,N,O⟩:=CV B E;refine⟨G,λt b=> ?_,λH'=> ?_,λx aD=> ?_⟩
      ·rcases List.mem_cons.1 b with rfl|b
       ·rfl
       ·exact L t b
      ·have z:R.put o.dst v=D q:=m;simp only[canRun,a7,n,j,k6,K.val,z,K.heap];rw[N H']
      ·rw[O x aD];cases x with
       |tmp t=>
        simp only[cb];rw[bl.p0 m t];split
        ·rename_i e;exact absurd rfl (u t e _ aD t rfl)
        ·rfl
       |_=>rfl
def y4{H H':ad}{t:TypeId}{u v:aa}(h:bA P H t u v=D H'):∃l i c b,u= .ptr l i c/\l<H.next/\H'=H.set l b/\∀a:ad,a.get l=H.get l->bA P a t u v=D (a.set l b):=by
 unfold bA at h;split at h
 ·rename_i l i c;split at h
  ·rename_i esz els d;split at h
   ·rename_i e he;split at h
    ·rename_i aA;simp only[bn]at h;exact⟨l,i,c,_,rfl,ad.b6 d,h.symm,λa ah=>by simp only[bA,ah,d,he];rw[if_pos aA]⟩
    ·cases h
   ·cases h
  ·rename_i f esz els d;split at h
   ·rename_i e he;split at h
    ·rename_i aA;simp only[bn]at h;exact⟨l,i,c,_,rfl,ad.b6 d,h.symm,λa ah=>by simp only[bA,ah,d,he];rw[if_pos aA]⟩
    ·cases h
   ·cases h
  ·cases h
 ·cases h
def ZY{a:Nat}{t:TypeId}{x y:Operand}(h:hS ops a=D (t,x,y)):∃o,ops[a]? =D o/\o.op= .store t x y/\o.guard=I/\o.dst=none:=by
 unfold hS at h;split at h
 ·rename_i o a7;split at h
  ·rename_i ae ah ak;simp only[bn,cM]at h;obtain⟨rfl,rfl,rfl⟩:=h;exact⟨o,a7,ae,ah,ak⟩
  ·cases h
 ·cases h
def vJ{a:Nat}{t:TypeId}{x y:Operand}(h:hS ops a=D (t,x,y))(is:List Nat)(R:bl)(H:ad):∃o,ops[a]? =D o/\o.dst=I/\canRun P call ops (a::is) R H=((cb R x).bind λu=>(cb R y).bind λv=>bA P H t u v).bind λH'=>(canRun P call ops is R H').map λp=>(⟨a,o,R,.cF (.tuple []) H'⟩::p.1,p.2):=by
 obtain⟨o,ae,ah,ak,au⟩:=ZY h;refine⟨o,ae,au,?_⟩;have d:e2 P call ops o R H=i_ H (iS P (.store t x y) R H):=by
  unfold e2 hG;rw[ak,ah];simp only[gz,cls]
 simp only[canRun,ae,d,iS];cases hu:cb R x with
 |none=>rfl
 |some u=>
  simp only[Option.bind_some];cases f:cb R y with
  |none=>rfl
  |some v=>
   simp only[Option.bind_some];cases e:bA P H t u v with
   |none=>rfl
   |some H'=>
    obtain⟨l,i,c,b,_,_,rfl,_⟩:=y4 e;simp only[Option.map_some,i_,ad.wS,b4,if_true,au,bl.put,K.heap,Option.bind_some];cases canRun P call ops is R (H.set l b)with
    |none=>rfl
    |some p=>rfl
def wH(R:bl)(x:Operand):Option Nat:=match cb R x with
 |some (.ptr l _ _)=>D l
 |_=>I
def yu(ops:Array Oper)(ord pre:List Nat)(a:Nat)(mid:List Nat)(b:Nat):Bool:=
 match hS ops a,hS ops b with
 |some (_,c,d),D _=>decide (ord=pre++a::(mid++[b]))&&(decide (a≠b)&&(mid.all (AJ ops [c,d])&&(Gr ops ord a b&&(w2 (fb ops b a) ord&&w2 (fb ops a b) (pre++(mid++[b,a]))))))
 |_,_=>Z
def r8(ops:Array Oper)(a b:Nat)(R:bl):Bool:=
 match hS ops a,hS ops b with
 |some (_,c,_),D (_,af,_)=>(match wH R c,wH R af with
  |some l,D m=> !Nat.beq l m
  |_,_=>Z)
 |_,_=>Z
def aag{id a b:Nat}{ord pre mid:List Nat}{act:Act}{w:World}(hm:P.follows .mixedOrders=C)(aX:dT E P call)(p:yu ops ord pre a mid b=C)(O:canRun P call ops ord c9 H0=D (T,cy,cZ))(N:r8 ops a b cy=C)(bg:nN P (cO ops) (g9 ops (cO ops) ord) T H0 T=C)
  (aV:Rel ρ0 H0 w) (aN:ha E ρ0 H0.next cZ.next) (a9:dO ρ0 c9 act) (aU:∀ρ a Y,dO ρ cy a->Step ρ0 H0 w ρ cZ Y->Q .normal a Y):(Code.region id ops C).wp P Q act w:=by
 unfold yu at p;unfold r8 at N;cases S:hS ops a with
 |none=>rw[S]at p;cases p
 |some bl=>
 obtain⟨bI,ay,aC⟩:=bl;cases ag:hS ops b with
 |none=>rw[S,ag]at p;cases p
 |some bm=>
 obtain⟨bK,af,bP⟩:=bm;rw[S,ag]at p N;simp only[Bool.and_eq_true,decide_eq_true_eq]at p N;obtain⟨a7,aW,a0,al,a1,a2⟩:=p;subst a7;have ap:=O;rw[sz]at O;obtain⟨⟨A,G,H1⟩,aQ,O⟩:=dP.1 O;obtain⟨⟨bJ,bC,bz⟩,K,he⟩:=Option.map_eq_some_iff.1 O;simp only[cM]at he;obtain⟨rfl,rfl,rfl⟩:=he;simp only at K;obtain⟨r,a3,am,aH⟩:=vJ (P:=P) (call:=call) S (mid++[b]) G H1;rw[aH]at K;obtain⟨bw,U,K⟩:=dP.1 K;obtain⟨⟨bD,bA,bu⟩,aa,he⟩:=Option.map_eq_some_iff.1 K;simp only[cM]at he;obtain⟨rfl,rfl,rfl⟩:=he;rw[sz]at aa;obtain⟨⟨M,f,aD⟩,aT,aa⟩:=dP.1 aa;obtain⟨⟨bE,bB,bv⟩,x,he⟩:=Option.map_eq_some_iff.1 aa;simp only[cM]at he;obtain⟨rfl,rfl,rfl⟩:=he
 simp only at x;obtain⟨rfl,aw,bi,ax⟩:=CV a0 aT;obtain⟨s,a5,an,aK⟩:=vJ (P:=P) (call:=call) ag [] f aD;rw[aK]at x;obtain⟨bx,V,x⟩:=dP.1 x;simp only[canRun,Option.map_some,bn,cM]at x;obtain⟨rfl,rfl,rfl⟩:=x;obtain⟨bL,bc,U⟩:=dP.1 U;obtain⟨bt,bd,U⟩:=dP.1 U;obtain⟨bM,ar,V⟩:=dP.1 V;obtain⟨bO,bf,V⟩:=dP.1 V;obtain⟨dc,bh,aG,n,rfl,bG,rfl,aM⟩:=y4 U;obtain⟨g,bH,bF,m,rfl,aZ,rfl,aO⟩:=y4 V;have aq:cb f ay=D (.ptr dc bh aG):=(ax ay (by simp)).trans bc;have be:cb f aC=D bt:=(ax aC (by simp)).trans bd;have aj:dc≠g:=by
  simp only[wH,aq,ar]at N;intro e;subst e;simp at N
 simp only[ad.wS]at aZ;have bs:=aO H1 (by rw[ad.cW aj]);have br:=aM (H1.set g m) (by rw[ad.cW (Ne.symm aj)]);have aY:(H1.set g m).set dc n=(H1.set dc n).set g m:=(ad.set_comm aj).symm;have a_:canRun P call ops (pre++(mid++[b,a])) c9 H0=D (A++(M++[⟨b,s,f,.cF (.tuple []) (H1.set g m)⟩,⟨a,r,f,.cF (.tuple []) ((H1.set dc n).set g m)⟩]),f,(H1.set dc n).set g m):=by
  obtain⟨bj,a4,_,aI⟩:=vJ (P:=P) (call:=call) S [] f (H1.set g m);obtain rfl:bj=r:=Option.some.inj (a4.symm.trans a3);obtain⟨bk,a6,_,aL⟩:=vJ (P:=P) (call:=call) ag [a] f H1;obtain rfl:bk=s:=Option.some.inj (a6.symm.trans a5);rw[sz,aQ];simp only[Option.bind_some];rw[sz,bi H1];simp only[Option.bind_some];rw[aL,ar,bf];simp only[Option.bind_some,bs];rw[aI,aq,be];simp only[Option.bind_some,br,canRun,Option.map_some,aY]
 have ao:∀t∈A++⟨a,r,G,.cF (.tuple []) (H1.set dc n)⟩::(M++[⟨b,s,f,.cF (.tuple []) ((H1.set dc n).set g m)⟩]),∀v,t.k= .read v->cV (cO ops) a t.i=Z/\cV (cO ops) t.i b=C/\(g9 ops (cO ops) (pre++a::(mid++[b])) t.i=C\/fk (cO ops) (iB P t.o.op t.R v) t.i (A++⟨a,r,G,.cF (.tuple []) (H1.set dc n)⟩::(M++[⟨b,s,f,.cF (.tuple []) ((H1.set dc n).set g m)⟩])) H0=C):=by
  intro t B v q;obtain⟨bo,bp,bq⟩:=Tc ap B q;unfold Gr at al;rw[List.all_eq_true]at al;have au:=al _ bo;rw[bp]at au;simp only at au;refine⟨?_,?_,Jr q bg B⟩<;>
  ·rcases bq with aA|aA<;>
   ·rw[aA]at au;simp only[Bool.and_eq_true,Bool.not_eq_true']at au
    first|exact au.2.2|exact au.2.1
 have aE:=Dp a1 (show canRun P call (fb ops b a) (pre++a::(mid++[b])) c9 H0=D (_,_,_) by rw[zb,ap];rfl) (λt B v q=>by
  obtain⟨u,hu,rfl⟩:=List.mem_map.1 B;obtain⟨_,_,ai⟩:=ao u hu v q;refine ai.imp (λh=>IP h λj ab=>ab) λh=> ?_
  have:=yE (b:=b) (a:=a) (ms':=cO (fb ops b a)) (vE b a) h;simpa only[hB,(lG b a u.i u.o).1]using this)
 have ba:∀j∈pre++(mid++[b,a]),j∈pre++a::(mid++[b]):=λj ab=>by
  simp only[List.mem_append,List.mem_cons,List.not_mem_nil,or_false]at ab ⊢;rcases ab with h|h|h|h
  ·exact .inl h
  ·exact .inr (.inr (.inl h))
  ·exact .inr (.inr (.inr h))
  ·exact .inr (.inl h)
 have aF:=Dp a2 (show canRun P call (fb ops a b) (pre++(mid++[b,a])) c9 H0=D (_,_,_) by rw[zb,a_];rfl) (λt B v q=>by
  obtain⟨u,hu,rfl⟩:=List.mem_map.1 B;have bb:u∈A++⟨a,r,G,.cF (.tuple []) (H1.set dc n)⟩::(M++[⟨b,s,f,.cF (.tuple []) ((H1.set dc n).set g m)⟩]):=by
   simp only[List.mem_append,List.mem_cons,List.not_mem_nil,or_false]at hu ⊢;rcases hu with h|h|rfl|rfl
   ·exact .inl h
   ·exact .inr (.inr (.inl h))
   ·cases q
   ·cases q
  obtain⟨ak,au,ai⟩:=ao u bb v q;refine ai.imp (λh=>IP h ba) λh=> ?_
  have aP:=BK (tb:=⟨b,s,f,.cF (.tuple []) (H1.set g m)⟩) (W:=[⟨a,r,f,.cF (.tuple []) ((H1.set dc n).set g m)⟩]) rfl rfl aw ak au h;have:=yE (b:=a) (a:=b) (ms':=cO (fb ops a b)) (vE a b) aP;simpa only[hB,(lG a b u.i u.o).1]using this)
 have z:∀j,cR (Array.replicate ops.size Z) j=false:=λj=>by
  unfold cR;rw[Array.getD_eq_getD_getElem?];by_cases h:j<ops.size<;>simp[h]
 refine wp_region_any hm (abu (ρ0:=ρ0) (w0:=w.drew) aW aE aF aX aN.le (λL c Y aR aS h=> ?_) rfl (λρ a Y ae ah=>aU ρ a Y ae ?_) _ _ _ _ ⟨by rw[jx];simp,λi o _ az=>absurd az (by rw[z];simp),ρ0,[],_,rfl,by simp,λt _ _=>z _,?_,c9,a9,rfl,λd=> ?_⟩ (z a) (z b) ?_)
 ·exact(iK.swap (ta:=⟨a,r,G,.cF (.tuple []) (H1.set dc n)⟩) (tb:=⟨b,s,f,.cF (.tuple []) ((H1.set dc n).set g m)⟩) (ta2:=⟨a,r,f,.cF (.tuple []) ((H1.set dc n).set g m)⟩) (tb2:=⟨b,s,f,.cF (.tuple []) (H1.set g m)⟩) aw ⟨_,_,rfl⟩ ⟨_,_,rfl⟩ ⟨_,_,rfl⟩ ⟨_,_,rfl⟩ rfl rfl am an am an aR aS h.down).up
 ·exact⟨ah.le,ah.next,ah.keep,ah.rel,ah.os,ah.tape,ah.output,ah.size,ah.frame,ah.own,ah.ro⟩
 ·have a8:∀(T:List bN) (H:ad),dH (cR (Array.replicate ops.size Z)) T H=λ_=>none:=by
   intro T
   induction T with
   |nil=>intro H;rfl
   |cons t T av=>
    intro H
    funext l
    unfold dH;split
    ·rw[av,z];simp
    ·rw[av]
  rw[a8];exact eY.start aV.drew aN.new
 ·rw[tf λt _ _=>z _]
 ·refine Nat.le_trans List.countP_le_length ?_;simp
def r9(ops:Array Oper)(ord:List Nat):Option (Nat×Nat):=match ord.getLast? with
 |none=>I
 |some b=>match hS ops b with
  |none=>I
  |some _=>match ord.dropLast.find? (λa=>(hS ops a).isSome&& !cV (cO ops) a b)with
   |none=>I
   |some a=>match yu ops ord (ord.dropLast.takeWhile λi=> !Nat.beq i a) a ((ord.dropLast.dropWhile λi=> !Nat.beq i a).drop 1) b with
    |true=>D (a,b)
    |false=>I
def aaf{ops:Array Oper}{ord:List Nat}{a b:Nat}(h:r9 ops ord=D (a,b)):∃pre mid,yu ops ord pre a mid b=true:=by
 unfold r9 at h;split at h
 ·cases h
 ·split at h
  ·cases h
  ·split at h
   ·cases h
   ·split at h
    ·rename_i c;simp only[bn,cM]at h;obtain⟨rfl,rfl⟩:=h;exact⟨_,_,c⟩
    ·cases h
end
def g8(P:Program)(call:an)(ops:Array Oper):List Oper->bl->ad->Option (bl×ad)
 |[],R,H=>D (R,H)
 |o::os,R,H=>match e2 P call ops o R H with
  |none=>I
  |some k=>match R.put o.dst k.val with
   |none=>I
   |some bm=>g8 P call ops os bm (k.heap H)
def J0(o:Oper):Bool:=match cls o.op with
 | .write=>C
 | .call=>C
 |_=>Z
def need(m:Nat)(done:Nat):List Nat->List Nat
 |[]=>[]
 |j::a=>if m.testBit j&& !done.testBit j then j::need m done a else need m done a
def Ij(done:Nat):List Nat->Nat
 |[]=>done
 |j::a=>Ij (done|||2^j) a
def AD(ms all:List Nat):List (Nat×Oper)->Nat->List Nat
 |[],done=>need (2^all.length-1) done all
 |(i,o)::is,done=>if J0 o&& !done.testBit i then
   (let a:=need (ms[i]?.getD 0) done all
    a++i::AD ms all is (Ij done a|||2^i))
  else AD ms all is done
def Jy:Nat->List Oper->List (Nat×Oper)
 |_,[]=>[]
 |i,o::os=>(i,o)::Jy (i+1) os
def order(ops:Array Oper):List Nat:=AD (cO ops) (List.range ops.size) (Jy 0 ops.toList) 0
def fR(P:Program)(call:an)(ops:Array Oper)(draw:Bool)(R:bl)(H:ad):Option (bl×ad):=
 match draw with
 |false=>g8 P call ops ops.toList R H
 |true=>match canRun P call ops (order ops) R H with
  |none=>I
  |some (T,bm,H')=>match r9 ops (order ops)with
   |some (a,b)=>(match r8 ops a b bm&&nN P (cO ops) (g9 ops (cO ops) (order ops)) T H T with
    |false=>I
    |true=>D (bm,H'))
   |none=>match hI (cO ops) T []with
    |false=>I
    |true=>match jq P (cO ops) (g9 ops (cO ops) (order ops)) T H T with
     |false=>I
     |true=>D (bm,H')
def jY:Code->Bool
 | .region _ ops C=>ou ops (cO ops) (order ops)
 | .seq a b=>jY a&&jY b
 | .cond _ a b=>jY a&&jY b
 | .block _ b=>jY b
 | .loop b=>jY b
 |_=>C
inductive fm where
 |normal
 |exit (id:Nat)
 |ret
def fm.zo:fm->Exit
 | .normal=> .normal
 | .exit id=> .exit id
 | .ret=> .ret
abbrev vt:=Array Oper->Bool->bl->ad->Option (bl×ad)
def iter(f:bl->ad->Option (fm×bl×ad)):Nat->bl->ad->Option (fm×bl×ad)
 |0,_,_=>I
 |n+1,R,H=>match f R H with
  |some (.normal,bm,H')=>iter f n bm H'
  |r=>r
def c4(g6:vt)(N:Nat):Code->bl->ad->Option (fm×bl×ad)
 | .skip,R,H=>D (.normal,R,H)
 | .region _ ops d,R,H=>match g6 ops d R H with
  |some (bm,H')=>D (.normal,bm,H')
  |none=>I
 | .seq a b,R,H=>match c4 g6 N a R H with
  |some (.normal,bm,H')=>c4 g6 N b bm H'
  |r=>r
 | .cond c a b,R,H=>match cb R c with
  |some (.bool C)=>c4 g6 N a R H
  |some (.bool Z)=>c4 g6 N b R H
  |_=>I
 | .block id b,R,H=>match c4 g6 N b R H with
  |some (.exit e,bm,H')=>if e=id then D (.normal,bm,H')else D (.exit e,bm,H')
  |r=>r
 | .loop b,R,H=>iter (λR H=>c4 g6 N b R H) N R H
 | .exit id,R,H=>D (.exit id,R,H)
 | .ret,R,H=>D (.ret,R,H)
 | .label _,R,H=>D (.normal,R,H)
 |_,_,_=>I
def bl.s0(t:bJ aa):Nat->List aa->bJ aa
 |_,[]=>t
 |i,v::a=>bl.s0 (bJ.put v (i+1) t i) (i+1) a
def bl.enter(n:Nat)(args:List aa):bl:=⟨bl.s0 .leaf 0 args,args.length+(n-args.length)⟩
def pF(P:Program)(R:bl)(H:ad):ResultVar->Option aa
 | .tmp t=>D (R.get t)
 | .cell a t=>aj P H t (R.get a)
def gZ(P:Program)(R:bl)(H:ad):List ResultVar->Option (List aa)
 |[]=>D []
 |r::rs=>match pF P R H r,gZ P R H rs with
  |some v,D a=>D (v::a)
  |_,_=>I
def lR:List aa->aa
 |[v]=>v
 |a=> .tuple a
def gH(P:Program)(ax:an)(N:Nat):Nat->an
 |0,_,_,_=>I
 |n+1,f,args,H=>match ax f args H with
 |some r=>D r
 |none=>match P.funcs[f]? with
  |none=>I
  |some fn=>match fn.body with
   |none=>I
   |some c=>match c4 (fR P (gH P ax N n)) N c (bl.enter fn.ntmps args) H with
    |none=>I
    |some (ex,R,H')=>match ex with
     | .exit _=>I
     |_=>match gZ P R H' fn.results.toList with
      |none=>I
      |some a=>D (lR a,H')
section
variable {E:Env}{P:Program}{ax:an}{call:an}{g6:vt}{N:Nat}
def Bm{ops:Array Oper}:∀{os:List Oper} {R bm:bl} {H H':ad},g8 P call ops os R H=D (bm,H')->H.next<=H'.next
 |[],R,bm,H,H',h=>by
  simp only[g8,bn,cM]at h;obtain⟨rfl,rfl⟩:=h;exact b4 _
 |o::os,R,bm,H,H',h=>by
  simp only[g8]at h;split at h
  ·cases h
  ·rename_i k a;split at h
   ·cases h
   ·exact Nat.le_trans (zN a) (Bm h)
def yO(g6:vt):Prop:=∀ops d R H bm H',g6 ops d R H=D (bm,H')->H.next<=H'.next
def Gv:yO (fR P call):=by
 intro ops d R H bm H' h;unfold fR at h;split at h
 ·exact Bm h
 ·split at h
  ·cases h
  ·rename_i T a H1 aA;split at h
   ·split at h
    ·cases h
    ·simp only[bn,cM]at h;obtain⟨rfl,rfl⟩:=h;rw[(iT aA).2.1];exact(pL aA).le
   ·split at h
    ·cases h
    ·split at h
     ·cases h
     ·simp only[bn,cM]at h;obtain⟨rfl,rfl⟩:=h;rw[(iT aA).2.1];exact(pL aA).le
def wm{f:bl->ad->Option (fm×bl×ad)}(aN:∀R H ex bm H',f R H=D (ex,bm,H')->H.next<=H'.next):∀{n:Nat} {R:bl} {H:ad} {ex:fm} {bm:bl} {H':ad},
  iter f n R H=D (ex,bm,H')->H.next<=H'.next
 |0,_,_,_,_,_,h=>by cases h
 |n+1,R,H,ex,bm,H',h=>by
  simp only[iter]at h;split at h
  ·rename_i a H1 ae;exact Nat.le_trans (aN _ _ _ _ _ ae) (wm aN h)
  ·exact aN _ _ _ _ _ h
def Dx(k:yO g6):∀(c:Code) {R:bl} {H:ad} {ex:fm} {bm:bl} {H':ad},c4 g6 N c R H=D (ex,bm,H')->H.next<=H'.next:=by
 intro c
 induction c with
 |skip=>intro R H ex bm H' h;simp only[c4,bn,cM]at h;obtain⟨_,_,rfl⟩:=h;exact b4 _
 |region id ops d=>
  intro R H ex bm H' h;simp only[c4]at h;split at h
  ·rename_i j H1 ae;simp only[bn,cM]at h;obtain⟨_,_,rfl⟩:=h;exact k _ _ _ _ _ _ ae
  ·cases h
 |seq a b g i=>
  intro R H ex bm H' h;simp only[c4]at h;split at h
  ·rename_i j H1 ae;exact Nat.le_trans (g ae) (i h)
  ·exact g h
 |cond c a b g i=>
  intro R H ex bm H' h;simp only[c4]at h;split at h
  ·exact g h
  ·exact i h
  ·cases h
 |block id b e=>
  intro R H ex bm H' h;simp only[c4]at h;split at h
  ·rename_i m j H1 ae;have:=e ae;split at h<;>(simp only[bn,cM]at h;obtain⟨_,_,rfl⟩:=h;exact this)
  ·exact e h
 |loop b e=>
  intro R H ex bm H' h;simp only[c4]at h;exact wm (λ_ _ _ _ _ h=>e h) h
 |exit id=>intro R H ex bm H' h;simp only[c4,bn,cM]at h;obtain⟨_,_,rfl⟩:=h;exact b4 _
 |ret=>intro R H ex bm H' h;simp only[c4,bn,cM]at h;obtain⟨_,_,rfl⟩:=h;exact b4 _
 |label l=>intro R H ex bm H' h;simp only[c4,bn,cM]at h;obtain⟨_,_,rfl⟩:=h;exact b4 _
 |goto l=>intro R H ex bm H' h;cases h
 |scope b e=>intro R H ex bm H' h;cases h
 |rangeFunc f n a b g i=>intro R H ex bm H' h;cases h
 |refuse y=>intro R H ex bm H' h;cases h
def Ii(m:dT E P call){ops:Array Oper}{Q:Exit->Act->World->Prop}:∀{os:List Oper} {R bm:bl} {H H':ad} {ρ:Env} {w:World} {a:Act},g8 P call ops os R H=D (bm,H')->
  Rel ρ H w->ha E ρ H.next H'.next->dO ρ R a->(∀d ck c,dO d bm ck->Step ρ H w d H' c->Q .normal ck c)->wpList P ops Q os a w
 |[],R,bm,H,H',ρ,w,a,h,e,_,f,j=>by
  simp only[g8,bn,cM]at h;obtain⟨rfl,rfl⟩:=h;exact j ρ a w f (.refl e)
 |o::os,R,bm,H,H',ρ,w,a,h,e,aN,f,j=>by
  simp only[g8]at h;split at h
  ·cases h
  ·rename_i k p;split at h
   ·cases h
   ·rename_i ab s;have q:=Bm h;have af:=zN p;have go:∀x c d,bB d k.val x->Step ρ H w d (k.heap H) c->wpList P ops Q os (a.put o.dst x) c:=λx c d aD i=>
     Ii m h i.rel (aN.after i) ((f.mono i.le).put s aD) λY r W ae ah=>j Y r W ae (i.trans ah)
    unfold wpList;rw[CA f o];rcases p5 p with⟨hw,g⟩|⟨hw,rfl⟩
    ·rw[hw];simp only[if_true];refine .inl ?_;cases k with
     |skip=>exact g.elim
     |pure v=>exact Gh g f λx aD=>go x w ρ aD (.refl e)
     |read v=>exact Gt e g f λx aD=>go x w ρ aD (.refl e)
     |new v b=>
      have n:ρ H.next=none:=aN.new _ (b4 _) (by simp only[K.heap,ad.ds]at q;omega)
      refine Fz g f n λx c d loc z L M N O S T U V A B G=>go x c d z ?_
      have t:eY ρ H w (H.next+1) (λ_=>I) ρ H w:=eY.start e λl ae ah=>by
       have:l=H.next:=ai
       rw[this];exact n
      have u:=t.early (b4 _) ai rfl L M N O S T U V A B G;exact(u.I0 (b:=b) (by simp)).done rfl
     |cF v aa=>
      exact Du m e (aN.left q) g f λx c d ae ah=>go x c d ae ah
    ·rw[hw];simp only[Bool.false_eq_true,if_false];exact go undef w ρ (.tuple [] [] .nil) (.refl e)
def BY(E:Env)(P:Program)(g6:vt):Prop:=∀(id:Nat) (ops:Array Oper) (d:Bool) (R:bl) (H:ad) (bm:bl) (H':ad),g6 ops d R H=D (bm,H')->(d=C->ou ops (cO ops) (order ops)=C)->∀(ρ:Env) (w:World) (a:Act) (Q:Exit->Act->World->Prop),Rel ρ H w->ha E ρ H.next H'.next->dO ρ R a->(∀c ck b,dO c bm ck->Step ρ H w c H' b->Q .normal ck b)->(Code.region id ops d).wp P Q a w
def Gw(hm:P.follows .mixedOrders=C)(e:dT E P call):BY E P (fR P call):=by
 intro id ops d R H bm H' h i ρ w a Q c aN g b;unfold fR at h;split at h
 ·exact wp_region_list (Ii e h c aN g b)
 ·split at h
  ·cases h
  ·rename_i T n H1 aA;split at h
   ·rename_i ck b' l;split at h
    ·cases h
    ·rename_i f;simp only[bn,cM]at h;obtain⟨rfl,rfl⟩:=h;obtain⟨pre,mid,k⟩:=aaf l;rw[Bool.and_eq_true]at f;exact aag hm e k aA f.1 f.2 c aN g b
   ·split at h
    ·cases h
    ·rename_i j;split at h
     ·cases h
     ·rename_i m;simp only[bn,cM]at h;obtain⟨rfl,rfl⟩:=h;exact abv hm e ⟨aA,i rfl,j,m⟩ c aN g b
def abw{c:Code}{Q:Exit->Act->World->Prop}(i:Nat->Act->World->Prop)(round:∀n a w,i n a w->∃m,n=m+1/\c.wp P (Exit.then (i m) Q) a w){n:Nat}{a:Act}{w:World}(s:i n a w):(Code.loop c).wp P Q a w:=by
 intro b k cs;have key:∀n a w,i n a w->∃e ck j,Q e ck j/\Arrives P (lone (b.at a (.code c:: .inLoop c::k)) cs w) b k cs e ck j:=by
  intro n
  induction n with
  |zero=>intro a w h;obtain⟨m,hm,_⟩:=round 0 a w h;omega
  |succ n t=>
   intro a w h;obtain⟨m,hm,hw⟩:=round _ a w h;obtain rfl:m=n:=ai;obtain⟨e,f,g,a8,d⟩:=hw b (.inLoop c::k) cs;cases e with
   |normal=>
    obtain⟨p,o,u,r,q⟩:=t f g a8;exact⟨p,o,u,r,.of_steps (Steps.trans d (.one step_inLoop)) q⟩
   |exit id=>exact⟨_,f,g,a8,.pass (x:= .inLoop c) rfl (λ_ _=> .inl (by simp)) d⟩
   |goto l=>exact⟨_,f,g,a8,.pass (x:= .inLoop c) rfl (λ_ _=> .inl (by simp)) d⟩
   |ret=>exact⟨_,f,g,a8,.pass (x:= .inLoop c) rfl (λ_ _=> .inl (by simp)) d⟩
   |panic v=>exact⟨_,f,g,a8,.pass (x:= .inLoop c) rfl (λ_ _=> .inl (by simp)) d⟩
   |outgrown=>exact⟨_,f,g,a8,.pass (x:= .inLoop c) rfl (λ_ _=> .inl (by simp)) d⟩
 obtain⟨e,ck,j,a8,d⟩:=key _ a w s;exact⟨e,ck,j,a8,.of_steps (.one step_loop) d⟩
def yJ(E:Env)(P:Program)(c:Code)(f:bl->ad->Option (fm×bl×ad)):Prop:=∀(R:bl) (H:ad) (ex:fm) (bm:bl) (H':ad),f R H=D (ex,bm,H')->∀(ρ:Env) (w:World) (a:Act) (Q:Exit->Act->World->Prop),Rel ρ H w->ha E ρ H.next H'.next->dO ρ R a->(∀d ck b,dO d bm ck->Step ρ H w d H' b->Q ex.zo ck b)->c.wp P Q a w
def OO{c:Code}{f:bl->ad->Option (fm×bl×ad)}(aN:yJ E P c f)(p:∀R H ex bm H',f R H=D (ex,bm,H')->H.next<=H'.next)(n:Nat):yJ E P (.loop c) (iter f n):=by
 intro R H ex bm H' h ρ w a Q v o A u;refine abw (n:=n) (λn e g=>∃i H1 d,iter f n i H1=D (ex,bm,H')/\Step ρ H w d H1 g/\dO d i e) ?_ ⟨R,H,ρ,h,.refl v,A⟩;rintro n e g ⟨i,H1,d,ae,b,q⟩;cases n with
 |zero=>cases ae
 |succ n=>
  refine⟨n,rfl,?_⟩;have hle:=wm p ae;simp only[iter]at ae;split at ae
  ·rename_i t s ah;have x:=wm p ae;refine aN _ _ _ _ _ ah d g e _ b.rel (ha.left (ha.after o b) x) q λl m r j k=> ?_
   exact⟨t,s,l,ae,b.trans k,j⟩
  ·rename_i z;refine aN _ _ _ _ _ ae d g e _ b.rel (ha.after o b) q λl m r j k=> ?_
   have:=u l m r j (b.trans k);cases ex with
   |normal=>exact absurd ae (z _ _)
   |exit id=>exact this
   |ret=>exact this
def Dz(A:yO g6)(M:BY E P g6):∀(c:Code),jY c=C->yJ E P c (c4 g6 N c):=by
 intro c
 induction c with
 |skip=>
  intro _ R H ex bm H' h ρ w a Q i aN e g;simp only[c4,bn,cM]at h;obtain⟨rfl,rfl,rfl⟩:=h;exact wp_skip (g ρ a w e (.refl i))
 |region id ops d=>
  intro j R H ex bm H' h ρ w a Q i aN e g;simp only[c4]at h;split at h
  ·rename_i v H1 ae;simp only[bn,cM]at h;obtain⟨rfl,rfl,rfl⟩:=h;exact M id ops d R H _ _ ae (λL=>by subst L;exact j) ρ w a Q i aN e g
  ·cases h
 |seq x y r s=>
  intro j R H ex bm H' h ρ w a Q i aN e g;simp only[jY,Bool.and_eq_true]at j;simp only[c4]at h;refine wp_seq ?_;split at h
  ·rename_i v H1 ae;have hle:=Dx A y h;refine r j.1 _ _ _ _ _ ae ρ w a _ i (aN.left hle) e λp m o n k=> ?_
   exact s j.2 _ _ _ _ _ h p o m Q k.rel (aN.after k) n λT B S G K=>g T B S G (k.trans K)
  ·rename_i u;refine r j.1 _ _ _ _ _ h ρ w a _ i aN e λp m o n k=> ?_
   have:=g p m o n k;cases ex with
   |normal=>exact absurd h (u _ _)
   |exit id=>exact this
   |ret=>exact this
 |cond c x y r s=>
  intro j R H ex bm H' h ρ w a Q i aN e g;simp only[jY,Bool.and_eq_true]at j;simp only[c4]at h;split at h
  ·rename_i aA;have ae:=dF e aA;refine wp_cond_true (by generalize a.eval c=z at ae;cases ae;rfl) ?_;exact r j.1 _ _ _ _ _ h ρ w a Q i aN e g
  ·rename_i aA;have ae:=dF e aA;refine wp_cond_false (by generalize a.eval c=z at ae;cases ae;rfl) ?_;exact s j.2 _ _ _ _ _ h ρ w a Q i aN e g
  ·cases h
 |block id b q=>
  intro j R H ex bm H' h ρ w a Q i aN e g;simp only[c4]at h;refine wp_block ?_;split at h
  ·rename_i O v H1 ae;split at h
   ·rename_i t;simp only[bn,cM]at h;obtain⟨rfl,rfl,rfl⟩:=h;refine q j _ _ _ _ _ ae ρ w a _ i aN e λp m o n k=> ?_
    have:=g p m o n k;simp only[fm.zo,Exit.inBlock,t,if_true];exact this
   ·rename_i t;simp only[bn,cM]at h;obtain⟨rfl,rfl,rfl⟩:=h;refine q j _ _ _ _ _ ae ρ w a _ i aN e λp m o n k=> ?_
    have:=g p m o n k;simp only[fm.zo,Exit.inBlock,t,if_false];exact this
  ·rename_i u;refine q j _ _ _ _ _ h ρ w a _ i aN e λp m o n k=> ?_
   have:=g p m o n k;cases ex with
   |normal=>exact this
   |exit O=>exact absurd h (u _ _ _)
   |ret=>exact this
 |loop b q=>
  intro j R H ex bm H' h ρ w a Q i aN e g;simp only[c4]at h;exact OO (q j) (λ_ _ _ _ _ h=>Dx A b h) N R H ex bm H' h ρ w a Q i aN e g
 |exit id=>
  intro _ R H ex bm H' h ρ w a Q i aN e g;simp only[c4,bn,cM]at h;obtain⟨rfl,rfl,rfl⟩:=h;exact wp_exit (g ρ a w e (.refl i))
 |ret=>
  intro _ R H ex bm H' h ρ w a Q i aN e g;simp only[c4,bn,cM]at h;obtain⟨rfl,rfl,rfl⟩:=h;exact wp_ret (g ρ a w e (.refl i))
 |label l=>
  intro _ R H ex bm H' h ρ w a Q i aN e g;simp only[c4,bn,cM]at h;obtain⟨rfl,rfl,rfl⟩:=h;exact wp_label (g ρ a w e (.refl i))
 |goto l=>intro _ R H ex bm H' h;cases h
 |scope b q=>intro _ R H ex bm H' h;cases h
 |rangeFunc f U a b r s=>intro _ R H ex bm H' h;cases h
 |refuse y=>intro _ R H ex bm H' h;cases h
def Aw:∀(args:List aa) (t:bJ aa) (i d:Nat),(bl.s0 t i args).get d=if i<=d/\d<i+args.length then args[d-i]? else t.get d
 |[],t,i,d=>by simp only[bl.s0,List.length_nil];rw[if_neg ai]
 |v::a,t,i,d=>by
  simp only[bl.s0];rw[Aw a];by_cases ae:i+1<=d/\d<i+1+a.length
  ·rw[if_pos ae,if_pos (by simp;omega),show d-i=(d-(i+1))+1 by omega];simp
  ·rw[if_neg ae];by_cases ah:d=i
   ·subst ah;rw[bJ.sK _ _ _ _ ai,if_pos (by simp)];simp
   ·rw[bJ.p1 _ _ _ _ _ (Ne.symm ah),if_neg (by simp;omega)]
def Dv{ρ:Env}{args:List aa}{xs:List Value}(h:bV ρ args xs)(n:Nat):dO ρ (bl.enter n args) {tmps:=xs.toArray++Array.replicate (n-xs.toArray.size) undef,defers:=[]}:=by
 have az:=h.length;refine⟨by simp[bl.enter,az],λd=> ?_,rfl⟩;unfold bl.get bl.enter;simp only
 rw[Aw];rw[Array.getD_eq_getD_getElem?];by_cases b:d<args.length
 ·rw[if_pos ai];obtain⟨v,a⟩:∃v,args[d]? =D v:=⟨args[d],by simp[b]⟩;obtain⟨x,aD,c⟩:=h.get d v a;have ae:(xs.toArray++Array.replicate (n-xs.toArray.size) undef)[d]? =D x:=by
   rw[Array.getElem?_append_left (by simp;omega)];simpa using aD
  rw[ae];simp only[Nat.sub_zero,a,Option.getD_some];exact c
 ·rw[if_neg ai];have ae:((xs.toArray++Array.replicate (n-xs.toArray.size) undef)[d]?).getD undef=undef:=by
   rw[Array.getElem?_append_right (by simp;omega)];simp only[Array.getElem?_replicate];split<;>rfl
  rw[ae,bJ.pZ];exact .tuple [] [] .nil
def th(tmps:Array Value):ResultVar->Sem Value
 | .tmp t=>pure (tmps.getD t undef)
 | .cell b t=>do loadVar t (<-asAddr (tmps.getD b undef))
def KM{ρ:Env}{H:ad}{w:World}{R:bl}{a:Act}(j:Rel ρ H w)(e:dO ρ R a){r:ResultVar}{v:aa}(h:pF P R H r=D v):
  ∃x,(th a.tmps r).run P w= .ok x w/\bB ρ v x:=by
 cases r with
 |tmp t=>
  simp only[pF,bn]at h;subst h;exact⟨_,rfl,e.get t⟩
 |cell b t=>
  simp only[pF]at h;obtain⟨x,f,g⟩:=yW j h (e.get b);refine⟨x,?_,g⟩;have ah:=e.get b;simp only[th];generalize a.tmps.getD b undef=z at ah f ⊢;have d:∃l i c,R.get b= .ptr l i c:=by
   generalize R.get b=u at h;unfold aj at h;cases u<;>first|exact⟨_,_,_,rfl⟩|(exfalso;simp at h)
  obtain⟨l,i,c,d⟩:=d;rw[d]at ah;cases ah;simpa [Instr.loadAt,Instr.sureAddr,asAddr]using f
def Cp{ρ:Env}{H:ad}{w:World}{R:bl}{a:Act}(c:Rel ρ H w)(d:dO ρ R a):∀{rs:List ResultVar} {b:List aa},gZ P R H rs=D b->
  ∃xs:List Value,(rs.mapM (th a.tmps)).run P w= .ok xs w/\bV ρ b xs
 |[],b,h=>by simp only[gZ,bn]at h;subst h;exact⟨[],by simp[Sem.run_pure],.nil⟩
 |r::rs,b,h=>by
  simp only[gZ]at h;split at h
  ·rename_i v l j k;simp only[bn]at h;subst h;obtain⟨x,e,f⟩:=KM c d j;obtain⟨xs,g,i⟩:=Cp c d k;refine⟨x::xs,?_,.cons _ _ _ _ f i⟩;rw[List.mapM_cons];simp only[Sem.run_bind,Result.andThen_ok,Sem.run_pure,e,g]
  ·cases h
def Tj(fn:Func)(tmps:Array Value):results fn tmps=(do
  let a<-fn.results.mapM (th tmps)
  pure (if h:a.size=1 then a[0]else .tuple a)):=by
 unfold results
 congr 1
def GA{ρ:Env}{H:ad}{w:World}{R:bl}{a:Act}(e:Rel ρ H w)(f:dO ρ R a){fn:Func}{b:List aa}(h:gZ P R H fn.results.toList=D b):
  ∃x,(results fn a.tmps).run P w= .ok x w/\bB ρ (lR b) x:=by
 obtain⟨xs,c,d⟩:=Cp e f h;have hm:(fn.results.mapM (th a.tmps)).run P w= .ok xs.toArray w:=by
  rw[Array.mapM_eq_mapM_toList];simp only[Sem.run_map,c,Result.andThen_ok]
 refine⟨if h:xs.toArray.size=1 then xs.toArray[0]else .tuple xs.toArray,?_,?_⟩
 ·rw[Tj];simp only[Sem.run_bind,hm,Result.andThen_ok,Sem.run_pure]
 ·cases d with
  |nil=>exact .tuple [] [] .nil
  |cons v x i l ae ah=>
   cases ah with
   |nil=>exact ae
   |cons g k j m ak au=>
    simp only[lR];rw[dif_neg (by simp)];exact .tuple _ _ (.cons _ _ _ _ ae (.cons _ _ _ _ ak au))
structure hZ(P:Program):Prop where
 mixed:P.follows .mixedOrders=true
 names:∀fn∈P.funcs,(fn.name== "runtime.NumGoroutine")=false
 Gg:∀(f:Nat) (fn:Func) (c:Code),P.funcs[f]? =some fn->fn.body=some c->jY c=true
def sE(a:hZ P)(e:dT E P ax):∀n,dT E P (gH P ax N n)
 |0=>λg args H v H' h=>by cases h
 |n+1=>by
  intro g args H v H' h ρ w xs f aN i aS next j
  simp only[gH]at h;split at h
  ·rename_i r t;cases h;exact e g args H v H' t ρ w xs f aN i aS next j
  split at h
  ·cases h
  ·rename_i fn b;split at h
   ·cases h
   ·rename_i c aA;split at h
    ·cases h
    ·rename_i ex R H1 o;have A:=sE a e n;have m:=Dz (N:=N) Gv (Gw a.mixed A) c (a.Gg _ _ _ b aA);have q:(fn.name== "runtime.NumGoroutine")=false:=a.names fn (Array.mem_of_getElem? b);have u:(callFunc g xs.toArray).run P w= .ok (.enter g xs.toArray) w:=by
      unfold callFunc;simp[b,aA];intro p;simp[p]at q
     unfold lO;rw[u];simp only
     split at h
     ·cases h
     ·rename_i s;split at h
      ·cases h
      ·rename_i K z;simp only[bn,cM]at h;obtain⟨rfl,rfl⟩:=h;refine calls_of_wp b aA (m _ _ _ _ _ o ρ w _ _ f aN (Dv i fn.ntmps) λG ck B ae ah=> ?_);obtain⟨x,d,l⟩:=GA ah.rel ae z;have k:=j x B G l ah;cases ex with
       |normal=>exact⟨ae.none,x,d,k⟩
       |ret=>exact⟨ae.none,x,d,k⟩
       |exit id=>exact absurd rfl (s id)
end
section
variable {E:Env}{P:Program}{ax:an}
def nQ(P:Program)(ax:an)(f:Nat)(args:List aa)(H:ad)(r:aa×ad):Prop:=∃k,∀N,k<=N->∀n,k<=n->gH P ax N n f args H=D r
def nQ.uniq{f:Nat}{args:List aa}{H:ad}{r s:aa×ad}(h:nQ P ax f args H r)(ca:nQ P ax f args H s):r=s:=by
 obtain⟨k,b⟩:=h;obtain⟨j,a⟩:=ca;have ae:=b (max k j) (Nat.le_max_left ..) (max k j) (Nat.le_max_left ..);rw[a (max k j) (Nat.le_max_right ..) (max k j) (Nat.le_max_right ..)]at ae;exact(Option.some.inj ae).symm
open Classical in
noncomputable def aC(P:Program)(ax:an):an:=λf args H=>if h:∃r,nQ P ax f args H r then D h.choose else I
def DC{f:Nat}{args:List aa}{H:ad}{r:aa×ad}(h:aC P ax f args H=D r):nQ P ax f args H r:=by
 unfold aC at h;split at h
 ·rename_i aD;rw[<-Option.some.inj h];exact aD.choose_spec
 ·cases h
def Pu{f:Nat}{args:List aa}{H:ad}{r:aa×ad}(h:nQ P ax f args H r):aC P ax f args H=D r:=by
 unfold aC;have aD:∃r,nQ P ax f args H r:=⟨r,h⟩;rw[dif_pos aD];exact congrArg D (aD.choose_spec.uniq h)
def L2(b:hZ P)(a:dT E P ax):dT E P (aC P ax):=by
 intro g args H v H' h;obtain⟨k,c⟩:=DC h;exact sE b a k g args H v H' (c k (b4 _) k (b4 _))
def Z2{o:Op}{R:bl}{H:ad}{x:K}(h:gz P (aC P ax) o R H=D x):∃k,∀N,k<=N->∀n,k<=n->gz P (gH P ax N n) o R H=D x:=by
 unfold gz at h;unfold gz;split at h
 ·exact⟨0,λ_ _ _ _=>h⟩
 ·exact⟨0,λ_ _ _ _=>h⟩
 ·exact⟨0,λ_ _ _ _=>h⟩
 ·exact⟨0,λ_ _ _ _=>h⟩
 ·exact⟨0,λ_ _ _ _=>h⟩
 ·split at h
  ·split at h
   ·rename_i g d aA;cases a:aC P ax g d H with
    |none=>rw[a]at h;cases h
    |some r=>
     obtain⟨k,c⟩:=DC a;refine⟨k,λN b n aS=> ?_⟩;rw[a]at h;simp only[c N b n aS];exact h
   ·cases h
  ·cases h
def EE{ops:Array Oper}{o:Oper}{R:bl}{H:ad}{x:K}(h:e2 P (aC P ax) ops o R H=D x):∃k,∀N,k<=N->∀n,k<=n->e2 P (gH P ax N n) ops o R H=D x:=by
 unfold e2 at h;unfold e2;split at h
 ·rename_i hw;obtain⟨k,b⟩:=Z2 h;exact⟨k,λN a n aS=>b N a n aS⟩
 ·exact⟨0,λ_ _ _ _=>h⟩
def Ih{ops:Array Oper}:∀{os:List Oper} {R:bl} {H:ad} {x:bl×ad},g8 P (aC P ax) ops os R H=D x->∃k,∀N,k<=N->∀n,k<=n->g8 P (gH P ax N n) ops os R H=D x
 |[],R,H,x,h=>⟨0,λ_ _ _ _=>h⟩
 |o::os,R,H,x,h=>by
  simp only[g8]at h;split at h
  ·cases h
  ·rename_i y d;split at h
   ·cases h
   ·rename_i bm a;obtain⟨k,c⟩:=EE d;obtain⟨j,b⟩:=Ih h;refine⟨max k j,λN e n aS=> ?_⟩;simp only[g8,c N ai n ai,a,b N ai n ai]
def CU{ops:Array Oper}:∀{is:List Nat} {R:bl} {H:ad} {x:List bN×bl×ad},canRun P (aC P ax) ops is R H=D x->∃k,∀N,k<=N->∀n,k<=n->canRun P (gH P ax N n) ops is R H=D x
 |[],R,H,x,h=>⟨0,λ_ _ _ _=>h⟩
 |i::is,R,H,x,h=>by
  simp only[canRun]at h;split at h
  ·cases h
  ·rename_i o a7;split at h
   ·cases h
   ·rename_i y d;split at h
    ·cases h
    ·rename_i bm a;split at h
     ·cases h
     ·rename_i T cy cZ aA;obtain⟨k,c⟩:=EE d;obtain⟨j,b⟩:=CU aA;refine⟨max k j,λN e n aS=> ?_⟩;simp only[canRun,a7,c N ai n ai,a,b N ai n ai];exact h
def Tg{ops:Array Oper}{d:Bool}{R:bl}{H:ad}{x:bl×ad}(h:fR P (aC P ax) ops d R H=D x):∃k,∀N,k<=N->∀n,k<=n->fR P (gH P ax N n) ops d R H=D x:=by
 unfold fR at h;unfold fR;split at h
 ·obtain⟨k,b⟩:=Ih h;exact⟨k,λN a n aS=>b N a n aS⟩
 ·split at h
  ·cases h
  ·rename_i T bm H' aA;obtain⟨k,b⟩:=CU aA;refine⟨k,λN a n aS=> ?_⟩;simp only[b N a n aS];exact h
def Ev{f:bl->ad->Option (fm×bl×ad)}:∀{n m:Nat} {R:bl} {H:ad} {x:fm×bl×ad},iter f n R H=D x->n<=m->iter f m R H=D x
 |0,_,_,_,_,h,_=>by cases h
 |n+1,0,_,_,_,_,hm=>ai
 |n+1,m+1,R,H,x,h,hm=>by
  simp only[iter]at h ⊢;split at h
  ·rename_i bm H' he;exact Ev h ai
  ·exact h
def Eu{f:bl->ad->Option (fm×bl×ad)}{g:Nat->Nat->bl->ad->Option (fm×bl×ad)}(aN:∀R H x,f R H=D x->∃k,∀N,k<=N->∀n,k<=n->g N n R H=D x):
  ∀{M:Nat} {R:bl} {H:ad} {x:fm×bl×ad},iter f M R H=D x->∃k,∀N,k<=N->∀n,k<=n->iter (g N n) M R H=D x
 |0,_,_,_,h=>by cases h
 |M+1,R,H,x,h=>by
  simp only[iter]at h;split at h
  ·rename_i bm H' he;obtain⟨k,a⟩:=aN _ _ _ he;obtain⟨j,c⟩:=Eu aN h;refine⟨max k j,λN b n aS=> ?_⟩;simp only[iter,a N ai n ai];exact c N ai n ai
  ·rename_i d;obtain⟨k,a⟩:=aN _ _ _ h;refine⟨k,λN b n aS=> ?_⟩;simp only[iter,a N b n aS];split
   ·rename_i bm H' he;cases he;exact absurd h (d _ _)
   ·rfl
def LW{M:Nat}:∀(c:Code) {R:bl} {H:ad} {x:fm×bl×ad},c4 (fR P (aC P ax)) M c R H=D x->∃k,∀N,k<=N->∀n,k<=n->c4 (fR P (gH P ax N n)) N c R H=D x:=by
 intro c
 induction c with
 |skip=>intro R H x h;exact⟨0,λ_ _ _ _=>h⟩
 |region id ops d=>
  intro R H x h;simp only[c4]at h;split at h
  ·rename_i r H1 ae;obtain⟨k,e⟩:=Tg ae;refine⟨k,λN i n aS=> ?_⟩;simp only[c4,e N i n aS];exact h
  ·cases h
 |seq a b o p=>
  intro R H x h;simp only[c4]at h;split at h
  ·rename_i r H1 ae;obtain⟨k,e⟩:=o ae;obtain⟨j,s⟩:=p h;refine⟨max k j,λN i n aS=> ?_⟩;simp only[c4,e N ai n ai,s N ai n ai]
  ·rename_i q;obtain⟨k,e⟩:=o h;refine⟨k,λN i n aS=> ?_⟩;simp only[c4,e N i n aS];split
   ·rename_i bm H' he;cases he;exact absurd h (q _ _)
   ·rfl
 |cond c a b o p=>
  intro R H x h;simp only[c4]at h;split at h
  ·rename_i aA;obtain⟨k,e⟩:=o h;refine⟨k,λN i n aS=> ?_⟩;simp only[c4,aA,e N i n aS]
  ·rename_i aA;obtain⟨k,e⟩:=p h;refine⟨k,λN i n aS=> ?_⟩;simp only[c4,aA,e N i n aS]
  ·cases h
 |block id b m=>
  intro R H x h;simp only[c4]at h;split at h
  ·rename_i t r H1 ae;obtain⟨k,e⟩:=m ae;refine⟨k,λN i n aS=> ?_⟩;simp only[c4,e N i n aS];exact h
  ·rename_i q;obtain⟨k,e⟩:=m h;refine⟨k,λN i n aS=> ?_⟩;simp only[c4,e N i n aS];split
   ·rename_i t bm H' he;cases he;exact absurd h (q _ _ _)
   ·rfl
 |loop b m=>
  intro R H x h;simp only[c4]at h;obtain⟨k,e⟩:=Eu (g:=λN n=>c4 (fR P (gH P ax N n)) N b) (λR H x aD=>m aD) h;refine⟨max k M,λN i n aS=> ?_⟩;simp only[c4];exact Ev (e N ai n ai) ai
 |exit id=>intro R H x h;exact⟨0,λ_ _ _ _=>h⟩
 |ret=>intro R H x h;exact⟨0,λ_ _ _ _=>h⟩
 |label l=>intro R H x h;exact⟨0,λ_ _ _ _=>h⟩
 |goto l=>intro R H x h;cases h
 |scope b m=>intro R H x h;cases h
 |rangeFunc f u a b o p=>intro R H x h;cases h
 |refuse y=>intro R H x h;cases h
def DB{f:Nat}{args:List aa}{H H':ad}{fn:Func}{c:Code}{M:Nat}{ex:fm}{R:bl}{b:List aa}(d:ax f args H=I)(aN:P.funcs[f]? =D fn)(e:fn.body=D c)
  (h:c4 (fR P (aC P ax)) M c (bl.enter fn.ntmps args) H=D (ex,R,H')) (hex:∀id,ex≠ .exit id) (a:gZ P R H' fn.results.toList=D b):aC P ax f args H=D (lR b,H'):=by
 obtain⟨k,g⟩:=LW c h;refine Pu ⟨k+1,λN i n aS=> ?_⟩;cases n with
 |zero=>omega
 |succ n=>
  simp only[gH,d,aN,e,g N ai n ai];cases ex with
  |exit id=>exact absurd rfl (hex id)
  |normal=>simp only[a]
  |ret=>simp only[a]
