/-
  Texts of one proof, laid together: Hv16 Hv18 Hv17 Hv21.
-/
import Derived.Test.YtolnciihfbifcaaGreatMC
set_option linter.unusedVariables false
set_option linter.unusedSimpArgs false
set_option linter.defProp false
open Option renaming some→D,none→Y
open Bool renaming true→V,false→U
namespace Go.cV
section
variable {E:Env}{P:Program}{call:ai}{ops:Array Oper}{ord:List Nat}{bL bC:a8}{bh bK:af}{T:List bg}{ρ0:Env}{w0:World}{Q:Exit->Act->World->Prop}
def Ctx.uniq(c:Ctx P call ops ord bL bh T bC bK){A B:List bg}{t:bg}(h:T=A++t::B){u:bg}(hu:u∈T)(he:u.i=t.i):u=t:=by
 rw[h]at hu;rcases List.mem_append.1 hu with hu|hu
 ·exact absurd he (c.before h hu).1
 ·rcases List.mem_cons.1 hu with rfl|hu
  ·rfl
  ·exact absurd he.symm (c.after h hu).1
def C6(bh:af)(T:List bg)(N:Nat)(ρ0:Env)(w0:World)(L:Nat->Bool)(ρ:Env)(w:World)(T1 T2:List bg):Prop:=T=T1++T2/\(∀t∈T1,t.k.eH=V->L t.i=V)/\(∀t∈T2,(∃v H,t.k= .bs v H)->L t.i=U)/\e1 ρ0 bh w0 N (dx L T2 (bD T1 bh)) ρ (bD T1 bh) w
def Ctx.next(c:Ctx P call ops ord bL bh T bC bK){A B:List bg}{t:bg}(h:T=A++t::B){b:Array Bool}(C:b.size=ops.size)(s:pX ops (bG b))(H:bG b t.i=U)
  (hw:jC (bG b) t.aA) {ρ:Env} {f:a8} {a:Act} {x:Value} {w:World} (M:dE ρ f a) (E:f.size=bL.size) (N:∀d,f.get d=e0 (bG b) d T (bL.get d)) (L:bb ρ t.k.val x) {T1 T2:List bg}
  (m:C6 bh T bK.next ρ0 w0 (bG (b.setIfInBounds t.i V)) ρ w T1 T2):Inv ops bL bh T bK.next ρ0 w0 (b.setIfInBounds t.i V) (a.put t.aA.dst x) w:=by
 obtain⟨z,_,_,F⟩:=c.at h;have v:t.i<b.size:=by rw[C];exact(Array.getElem?_eq_some_iff.1 z).1
 have q:bG (b.setIfInBounds t.i V) t.i=true:=by rw[lQ v];simp
 have g:∀j,j≠t.i->bG (b.setIfInBounds t.i V) j=bG b j:=λj o=>by rw[lQ v];simp[o]
 have y:∀j,bG b j=V->bG (b.setIfInBounds t.i V) j=true:=λj o=>by
  by_cases e:j=t.i
  ·rw[e];exact q
  ·rw[g j e];exact o
 have K:∃a2,f.put t.aA.dst t.k.val=D a2:=by
  cases G:t.aA.dst with
  |none=>exact⟨f,rfl⟩
  |some d=>
   have:=F d G;exact⟨{f with t:=bf.put t.k.val (d+1) f.t d},by simp only[a8.put];rw[if_pos (by rw[E];exact this)]⟩
 obtain⟨a2,l⟩:=K;refine⟨by simpa using C,λi aA n u e he r=> ?_,ρ,T1,T2,m.1,m.2.1,m.2.2.1,m.2.2.2,a2,M.put l L,by rw[a8.size_put l,E],λd=> ?_⟩
 ·by_cases p:i=t.i
  ·subst p;rw[z]at n;cases n;exact y _ (hw e he r)
  ·rw[g i p]at u;exact y _ (s i aA n u e he r)
 ·rw[a8.nT l d,c.O9 h s H q g d,N d]
def Ctx.norm(c:Ctx P call ops ord bL bh T bC bK){N:Nat}{L:Nat->Bool}{ρ:Env}{w:World}:∀{T2 T1:List bg},C6 bh T N ρ0 w0 L ρ w T1 T2->
  ∃q j,C6 bh T N ρ0 w0 L ρ w q j/\∀u e,j=u::e->u.k.eH=V/\L u.i=U
 |[],T1,m=>⟨T1,[],m,λu e h=>by cases h⟩
 |u::T2,T1,m=>by
  by_cases f:u.k.eH=V/\L u.i=U
  ·exact⟨T1,u::T2,m,λy e h=>by simp only[List.cons.injEq]at h;rw[<-h.1];exact f⟩
  ·obtain⟨l,r,n,s⟩:=m;have p:=nK c.fM;rw[l]at p;have t:=(eN.append p).2;have hq:=e1.turns (zC:=[u]) (zD:=T2) (L:=L) t (λv a d=>by
    have:v=u:=by simpa using a
    subst this;have g:L v.i=true:=by
     cases a:L v.i with
     |true=>rfl
     |false=>exact absurd ⟨d,a⟩ f
    refine⟨g,?_⟩;cases o:v.k with
    |new x b=>exact⟨x,b,rfl⟩
    |bs x H=>rw[n v (by simp) ⟨x,H,o⟩]at g;cases g
    |_=>rw[o]at d;cases d) s
   rw[<-jI]at hq;refine c.norm (T2:=T2) (T1:=T1++[u]) ⟨by rw[l];simp,λv a d=> ?_,λv a=>n v (by simp[a]),hq⟩;rcases List.mem_append.1 a with a|a
   ·exact r v a d
   ·have:v=u:=by simpa using a
    subst this;cases a:L v.i with
    |true=>rfl
    |false=>exact absurd ⟨d,a⟩ f
def Fc{L:Nat->Bool}{u:bg}{v:aa}{b:an}(hu:u.k= .new v b)(e:L u.i=V):∀{zC zD:List bg} {H:af},eN H (zC++u::zD)->dx L (zC++u::zD) H (bD zC H).next=D b
 |[],zD,H,_=>by simp[dx,hu,e,bD]
 |c::zC,zD,H,hm=>by
  have a:=Fc hu e (zC:=zC) (zD:=zD) hm.2;have hle:∀{zC:List bg} {H:af},eN H zC->H.next<=(bD zC H).next:=by
   intro zC
   induction zC with
   |nil=>intro H _;exact cW _
   |cons x zC l=>intro H h;exact Nat.le_trans h.1 (l h.2)
  by_cases g:∃v b,c.k= .new v b
  ·obtain⟨m,eG,f⟩:=g;have d:=hle (eN.append hm.2).1;have j:=hm.2;rw[f]at d j a;simp only[K.heap,af.jP]at d a;simp only[List.cons_append,dx,f,bD,K.heap];rw[if_neg bn];exact a
  ·rw[List.cons_append,oM λv b h=>g ⟨v,b,h⟩,bD];exact a
def DO{l:Nat}:∀{zC:List bg} {H:af},(∀x∈zC,lT x.k=V)->l<H.next->(bD zC H).get l=H.get l
 |[],H,_,_=>rfl
 |c::zC,H,a,g=>by
  have e:=a c (by simp);rw[bD];cases f:c.k with
  |new v b=>
   rw[DO (λx d=>a x (by simp[d])) (by simp only[K.heap,af.jP];omega)];exact af.fL bn
  |bs v H'=>rw[f]at e;cases e
  |_=>exact DO (λx d=>a x (by simp[d])) g
def Rel.acv{ρ:Env}{H:af}{w:World}{b:an}(h:b≠ .dead->∃loc,ρ H.next=D loc/\iA ρ w loc b):Rel ρ (H.push b).only w where
 row l ro esz els a:=by
  obtain⟨rfl,rfl⟩:=af.q0 a;obtain⟨loc,c,d⟩:=h (by intro e;cases e);exact⟨loc,c,d⟩
 map l es a:=by
  obtain⟨rfl,rfl⟩:=af.q0 a;obtain⟨loc,c,d⟩:=h (by intro e;cases e);exact⟨loc,c,d⟩
 dp l t esz els a:=by
  obtain⟨rfl,rfl⟩:=af.q0 a;obtain⟨loc,c,d⟩:=h (by intro e;cases e);exact⟨loc,c,d⟩
 apart l i loc k c d j _ _:=by
  exfalso;have f:∃x,(H.push b).only.get l=D x:=by
   unfold af.rw at c;cases a:(H.push b).only.get l with
   |none=>simp[a]at c
   |some x=>exact⟨x,rfl⟩
  have g:∃x,(H.push b).only.get i=D x:=by
   unfold af.live at d;cases a:(H.push b).only.get i with
   |none=>simp[a]at d
   |some x=>exact⟨x,rfl⟩
  obtain⟨x,f⟩:=f;obtain⟨y,g⟩:=g;exact j ((af.q0 f).1.trans (af.q0 g).1.symm)
def count_set{n i fuel:Nat}{a:Array Bool}(d:i<a.size)(g:i<n)(f:bG a i=U)(h:(List.range n).countP (λj=> !bG a j)<=fuel+1):(List.range n).countP (λj=> !bG (a.setIfInBounds i V) j)<=fuel:=by
 have c:bG (a.setIfInBounds i V) i=true:=by rw[lQ d];simp
 have:=I5 (p:=λj=> !bG a j) (q:=λj=> !bG (a.setIfInBounds i V) j) (i:=i) (l:=List.range n) (by simpa using g)
  (λj b=>by
   by_cases e:j=i
   ·rw[e,c]at b;cases b
   ·rw[lQ d,if_neg e]at b;exact b) (by simp[f]) (by simp[c])
 omega
def Ctx.step(c:Ctx P call ops ord bL bh T bC bK)(bv:aZ E P call)(bq:E.le ρ0){q:Array Bool}{a:Act}{w:World}(p:Inv ops bL bh T bK.next ρ0 w0 q a w){i:Nat}{aA:Oper}(ah:ops[i]? =D aA)(aa:bG q i=U)(hw:jC (bG q) aA)(a_:i<ops.size)
  {ik:Act->World->Prop} (aN:∀dD aI,Inv ops bL bh T bK.next ρ0 w0 (q.setIfInBounds i V) dD aI->ik dD aI):wpOp P ops Q i ik a w:=by
 have bc:=c.Ff;simp only[mX,Bool.and_eq_true,List.all_eq_true,List.mem_range]at bc;have ba:=bc.1 i a_;rw[List.contains_iff_mem,<-(iS c.fM).1,List.mem_map]at ba;obtain⟨t,S,rfl⟩:=ba;have bN:=c.mem S;obtain rfl:t.aA=aA:=Option.some.inj (bN.symm.trans ah);obtain⟨ρ,T1,T2,F,aq,ar,m,aW,ae,aV,aH⟩:=p.mid;have bd:t.i<q.size:=by rw[p.size];exact a_
 have aE:bG (q.setIfInBounds t.i V) t.i=true:=by rw[lQ bd];simp
 have M:∀j,j≠t.i->bG (q.setIfInBounds t.i V) j=bG q j:=λj bA=>by rw[lQ bd];simp[bA]
 obtain⟨aJ,aC,r⟩:=List.append_of_mem S;have a9:∀d∈t.aA.looksAt ops,aW.get d=t.C.get d:=λd bw=>by rw[aH d];exact c.looks r p.closed hw aa d bw
 have aG:=PJ a9;have bO:Region.wanted t.aA (yielded ops a.tmps)=h_ ops t.C t.aA:=(IU ae t.aA).trans (PL a9);unfold wpOp;rw[ah];simp only[bO];have still:t.k.eH=U->∀x,bb ρ t.k.val x->ik (a.put t.aA.dst x) w:=by
  intro n x o;refine aN _ _ (c.next r p.size p.closed aa hw ae aV aH o (T1:=T1) (T2:=T2) ⟨F,λu hu ad=> ?_,λu hu ai=> ?_,?_⟩)
  ·have:=aq u hu ad;by_cases e:u.i=t.i
   ·rw[e];exact aE
   ·rw[M _ e];exact this
  ·have al:u.i≠t.i:=λe=>by
    have:=c.uniq r (by rw[F];simp[hu]) e;subst this;obtain⟨v,H,z⟩:=ai;rw[z]at n;cases n
   rw[M _ al];exact ar u hu ai
  ·rw[q2 (L':=bG q) λu hu v b z=>M _ λe=>by
    have:=c.uniq r (by rw[F];simp[hu]) e;subst this;rw[z]at n;cases n]
   exact m
 rcases oC (c.at r).2.2.1 with⟨am,z⟩|⟨am,z⟩
 ·rw[am];simp only[if_true];refine .inl ?_;have aY:t.k.eH=V->∃zC zD,T2=zC++t::zD:=λn=>by
   rw[F]at S;rcases List.mem_append.1 S with S|S
   ·have:=aq t S n;rw[aa]at this;cases this
   ·exact List.append_of_mem S
  have ak:=nK c.fM;cases f:t.k with
  |skip=>rw[f]at z;exact z.elim
  |pure v=>
   rw[f]at z;have R:=kb.congr (λx o=>(aG x o).symm) z;exact NR R ae λx o=>still (by rw[f];rfl) x (by rw[f];exact o)
  |read v=>
   obtain⟨aD,aL,⟨f1,f2,f3,f4⟩,f5⟩:=c.norm (ρ0:=ρ0) (w0:=w0) (N:=bK.next) (L:=bG q) (ρ:=ρ) (w:=w) (T2:=T2) (T1:=T1) ⟨F,aq,ar,m⟩;have aF:∃aK,Rel ρ aK w/\ho P t.aA.op t.C aK=D v:=by
    rcases OE f c.ar2 S with bx|bJ
    ·
      refine⟨_,f4.rel,?_⟩;have a6:ho P t.aA.op t.C (bD aJ bh)=D v:=by
       rcases oC (c.at r).2.2.1 with⟨_,a5⟩|⟨o,_⟩
       ·rw[f]at a5;exact a5
       ·rw[am]at o;cases o
      have a4:∀u∈T,u.k.eH=V->u.i≠t.i/\(bH (bF ops) u.i t.i=V\/bH (bF ops) t.i u.i=V):=λu hu n=>by
       have al:u.i≠t.i:=λe=>by
        have:=c.uniq r hu e;subst this;rw[f]at n;cases n
       obtain⟨b5,b6,g⟩:=List.append_of_mem hu;refine⟨al,arz bx ?_ al (c.at g).1 (Na (c.at g).2.2.1 n)⟩;rw[<-(iS c.fM).1,List.mem_map];exact⟨u,hu,rfl⟩
      have bE:∀u∈aJ,u.k.eH=V->bG q u.i=true:=λu hu n=>by
       rcases(a4 u (by rw[r];simp[hu]) n).2 with g|g
       ·exact jV p.closed _ _ ah hw _ g
       ·have:=(c.before r hu).2.1;rw[g]at this;cases this
      have bz:∀u∈aC,u.k.eH=V->bG q u.i=false:=λu hu n=>by
       have be:u∈T:=by rw[r];simp[hu]
       rcases(a4 u be n).2 with g|g
       ·have:=(c.after r hu).2.1;rw[g]at this;cases this
       ·cases ab:bG q u.i with
        |false=>rfl
        |true=>
         have ay:=c.mem be;have:=jV p.closed _ _ ay (p.closed _ _ ay ab) _ g;rw[aa]at this;cases this
      have aU:aD++aL=aJ++t::aC:=by rw[<-f1,<-r]
      rcases List.append_eq_append_iff.1 aU with⟨dD,av,aO⟩|⟨aM,aj,W⟩
      ·cases dD with
       |nil=>rw[List.append_nil]at av;rw[<-av];exact a6
       |cons u bk=>
        obtain⟨O,G⟩:=f5 u (bk++t::aC) aO;have:=bE u (by rw[av];simp) O;rw[G]at this;cases this
      ·have bM:∀(aB:List bg) (H:af),(∀u∈aB,u.k.eH=U)->bD aB H=H:=by
        intro aB
        induction aB with
        |nil=>intro H _;rfl
        |cons u aB bQ=>intro H a0;rw[bD,xR (a0 u (by simp))];exact bQ H λu hu=>a0 u (by simp[hu])
       rw[aj,jI,bM aM _ ?_]
       ·exact a6
       ·intro u hu;cases n:u.k.eH with
        |false=>rfl
        |true=>
         have g:=f2 u (by rw[aj];simp[hu]) n;have au:u∈t::aC:=by rw[W];simp[hu]
         rcases List.mem_cons.1 au with rfl|au
         ·rw[f]at n;cases n
         ·have:=bz u au n;rw[g]at this;cases this
    ·rcases aqY bJ with bf|bI
     rotate_left
     ·obtain⟨A,u,B,b3,b,O,G,bl,bm,bo⟩:=No bI;refine⟨_,Rel.acv λaw=> ?_,NY bo⟩;have ab:=jV p.closed _ _ ah hw _ bl;have aU:aD++aL=A++u::B:=by rw[<-f1,<-O]
      rcases List.append_eq_append_iff.1 aU with⟨dD,av,aO⟩|⟨aM,aj,W⟩
      ·have aS:=f4.iK (bD A bh).next b (by
        rw[f1]at ak;have s:=(eN.append ak).2;rw[aO]at s ⊢;rw[av,jI];exact Fc G ab s)
       obtain⟨_,_,_,loc,az,ap,_⟩:=aS;exact⟨loc,az,ap⟩
      ·cases aM with
       |nil=>
        have aS:=f4.iK (bD A bh).next b (by
         rw[f1]at ak;have s:=(eN.append ak).2;rw[List.nil_append]at W;rw[List.append_nil]at aj;rw[<-W]at s ⊢;rw[aj]at s ⊢;exact Fc (zC:=[]) G ab s)
        obtain⟨_,_,_,loc,az,ap,_⟩:=aS;exact⟨loc,az,ap⟩
       |cons x b7=>
        simp only[List.cons_append,List.cons.injEq]at W;obtain⟨rfl,W⟩:=W;have aP:(bD aD bh).get (bD A bh).next=D b:=by
         rw[aj,jI,bD,G];rw[DO (λx o=>bm x (by rw[W];simp[o])) (by simp[K.heap])];exact af.hv _ b
        cases b with
        |row ro esz els=>exact f4.rel.row _ _ _ _ aP
        |map es=>exact f4.rel.map _ _ aP
        |dp t esz els=>exact f4.rel.dp _ _ _ _ aP
        |dead=>exact absurd rfl aw
     refine⟨_,f4.rel,?_⟩;rw[show fh (bF ops) (iL P t.aA.op t.C v) t.i T bh=fh (bF ops) (iL P t.aA.op t.C v) t.i (aD++aL) bh by rw[<-f1]]at bf;exact NY (Io bf (λu hu ad=>by
      cases aw:bH (bF ops) t.i u.i with
      |false=>rfl
      |true=>
       have ay:=c.mem (t:=u) (by rw[f1];simp[hu]);have:=jV p.closed _ _ ay (p.closed _ _ ay (f2 u hu ad)) _ aw;rw[aa]at this;cases this) (λu bj hu=>by
      obtain⟨O,G⟩:=f5 u bj hu;refine⟨O,?_⟩;cases aw:bH (bF ops) u.i t.i with
      |false=>rfl
      |true=>
       have:=jV p.closed _ _ ah hw _ aw;rw[G]at this;cases this))
   obtain⟨aK,bP,aF⟩:=aF;rw[<-IP aG]at aF;exact NZ bP aF ae λx o=>still (by rw[f];rfl) x (by rw[f];exact o)
  |new v b=>
   obtain⟨zC,zD,y⟩:=aY (by rw[f];rfl);have g:T=(T1++zC)++t::zD:=by rw[F,y];simp
   have aQ:=(c.at g).2.2.1;rcases oC aQ with⟨_,ax⟩|⟨o,_⟩
   ·rw[f]at ax;have R:=kb.congr (λx o=>(aG x o).symm) ax;have s:eN (bD T1 bh) (zC++t::zD):=by
     have:=ak;rw[F,y]at this;exact(eN.append this).2
    obtain⟨az,ap⟩:=NP (L:=bG q) (L':=bG (q.setIfInBounds t.i V)) f aa aE s
     (λu hu=>(M _ (c.before g (by simp[hu])).1).symm) (λu hu=>(M _ (Ne.symm (c.after g hu).1)).symm)
    have a3:(bD T1 bh).next<=(bD zC (bD T1 bh)).next:=(eN.append s).1.le
    have a8:(bD zC (bD T1 bh)).next<bK.next:=by
     have au:=(eN.append s).2;have aX:=au.2.le;rw[f]at aX;have bp:bK=bD zD (K.heap (bD zC (bD T1 bh)) (.new v b)):=by
      rw[(iS c.fM).2.1,g,jI,jI,bD,f]
     rw[bp];simp only[K.heap,af.jP]at aX ⊢;omega
    rw[y]at m;have bB:iQ P t.aA.op aW (bD zC (bD T1 bh)).next=D (v,b):=by rw[<-jI];exact R
    refine Np bB ae (m.fresh _ a3 a8 ap) λx aI b4 loc bS bi bW bX bY bZ b0 b1 b2 bT bU bV=> ?_
    have hq:=m.early a3 a8 ap bi bW bX bY bZ b0 b1 b2 bT bU bV;rw[<-az]at hq;refine aN _ _ (c.next r p.size p.closed aa hw (ae.mono bi) aV aH (by rw[f];exact bS) (T1:=T1) (T2:=zC++t::zD) ⟨by rw[F,y],λu hu ad=> ?_,λu hu ai=> ?_,hq⟩)
    ·have:=aq u hu ad;by_cases e:u.i=t.i
     ·rw[e];exact aE
     ·rw[M _ e];exact this
    ·have al:u.i≠t.i:=λe=>by
      have:=c.uniq r (by rw[F,y];simp at hu ⊢;exact .inr hu) e;subst this;obtain⟨b3,H,R⟩:=ai;rw[f]at R;cases R
     rw[M _ al];exact ar u (by rw[y];exact hu) ai
   ·rw[am]at o;cases o
  |bs v H'=>
   obtain⟨zC,zD,y⟩:=aY (by rw[f];rfl);have g:T=(T1++zC)++t::zD:=by rw[F,y];simp
   have aQ:=(c.at g).2.2.1;rcases oC aQ with⟨_,ax⟩|⟨o,_⟩
   ·rw[f]at ax;have R:=kb.congr (λx o=>(aG x o).symm) ax;have s:eN (bD T1 bh) (zC++t::zD):=by
     have:=ak;rw[F,y]at this;exact(eN.append this).2
    have a2:=c.bs;rw[g]at a2;have a1:=(xG a2 f).2;rw[y]at m;have an:=e1.turns (zC:=zC) (zD:=t::zD) (L:=bG q) s (λu hu n=>by
     have ab:=jV p.closed _ _ ah hw _ (a1 u (by simp[hu]) n);refine⟨ab,?_⟩;cases a7:u.k with
     |new x b=>exact⟨x,b,rfl⟩
     |bs x H=>rw[ar u (by rw[y];simp[hu]) ⟨x,H,a7⟩]at ab;cases ab
     |_=>rw[a7]at n;cases n) m
    rw[oM (λv b h=>by rw[f]at h;cases h),f]at an;simp only[K.heap]at an;have aR:eN H' zD:=by have:=(eN.append s).2.2;rw[f]at this;exact this
    have bt:bK=bD zD H':=by rw[(iS c.fM).2.1,g,jI,bD,f];rfl
    have bu:H'.next<=bK.next:=by rw[bt];exact aR.le
    rw[jI]at R;refine I_ (H:=bD zC (bD T1 bh)) (H':=H') bv an.rel ⟨λl O G=>an.fresh l O bn ?_,Env.le_trans bq an.le⟩ R ae λx aI b4 O G=> ?_
    ·cases aT:dx (bG q) zD H' l with
     |none=>rfl
     |some b=>have:=q3 aR aT;omega
    ·have bR:=an.step G bu (λl b aT=>q3 aR aT);refine aN _ _ (c.next r p.size p.closed aa hw (ae.mono G.le) aV aH (by rw[f];exact O) (T1:=T1++zC++[t]) (T2:=zD) ⟨by rw[g];simp,λu hu ad=> ?_,λu hu ai=> ?_,?_⟩)
     ·by_cases e:u.i=t.i
      ·rw[e];exact aE
      ·rw[M _ e];simp only[List.mem_append,List.mem_singleton]at hu;rcases hu with(hu|hu)|rfl
       ·exact aq u hu ad
       ·exact jV p.closed _ _ ah hw _ (a1 u (by simp[hu]) ad)
       ·exact absurd rfl e
     ·rw[M _ (Ne.symm (c.after g hu).1)];exact ar u (by rw[y];simp[hu]) ai
     ·have br:bD (T1++zC++[t]) bh=H':=by rw[jI,bD,f];rfl
      rw[br,q2 (L':=bG q) λu hu v b z=>M _ (Ne.symm (c.after g hu).1)];exact bR
   ·rw[am]at o;cases o
 ·rw[am];simp only[Bool.false_eq_true,if_false];exact still (by rw[z];rfl) undef (by rw[z];exact .tuple [] [] .nil)
def Ctx.any(c:Ctx P call ops ord bL bh T bC bK)(s:aZ E P call)(q:E.le ρ0)(r:∀ρ a w,dE ρ bC a->Step ρ0 bh w0 ρ bK w->Q .normal a w):
  ∀(fuel:Nat) (b:Array Bool) (a:Act) (w:World),Inv ops bL bh T bK.next ρ0 w0 b a w->(List.range ops.size).countP (λj=> !bG b j)<=fuel->wpAny P .any ops Q fuel b a w:=by
 have n:∀b a w,Inv ops bL bh T bK.next ρ0 w0 b a w->Region.ready .any ops b=[]->Q .normal a w:=by
  intro b a w d e;obtain⟨ρ,l,f⟩:=c.final d (c.IE d.size e);exact r ρ a w l f
 intro fuel
 induction fuel with
 |zero=>
  intro b a w d m;have e:Region.ready .any ops b=[]:=by
   rw[List.eq_nil_iff_forall_not_mem];intro i g;obtain⟨aA,l,f,v,p⟩:=lV g d.size;have x:0<(List.range ops.size).countP (λj=> !bG b j):=List.countP_pos_iff.2 ⟨i,by simpa using p,by simp[f]⟩;omega
  exact⟨e,n _ _ _ d e⟩
 |succ fuel u=>
  intro b a w d m;refine⟨λe=>n _ _ _ d e,λi g=> ?_⟩;obtain⟨aA,t,o,hw,k⟩:=lV g d.size;exact c.step s q d t o hw k λdD y h=>u _ _ _ h (count_set (by rw[d.size];exact k) k o m)
def ar4{id:Nat}{a:Act}{w:World}(hm:P.follows .mixedOrders=V)(p:aZ E P call)(c:Ctx P call ops ord bL bh T bC bK)(o:Rel ρ0 bh w)(g:hE E ρ0 bh.next bK.next)(s:dE ρ0 bL a)
  (n:∀ρ a f,dE ρ bC a->Step ρ0 bh w ρ bK f->Q .normal a f):(Code.region id ops V).wp P Q a w:=by
 have e:∀j,bG (Array.replicate ops.size U) j=false:=λj=>by
  unfold bG;rw[Array.getD_eq_getD_getElem?];by_cases h:j<ops.size<;>simp[h]
 refine wp_region_any hm (c.any (ρ0:=ρ0) (w0:=w.drew) p g.le (λρ a f m b=>n ρ a f m ?_) _ _ _ _ ⟨by simp,λi aA _ q=>absurd q (by rw[e];simp),ρ0,[],T,rfl,by simp,λt _ _=>e _,?_,bL,s,rfl,λd=> ?_⟩ ?_)
 ·exact⟨b.le,b.next,b.hp,b.rel,b.os,b.tape,b.output,b.size,b.frame,b.own,b.ro⟩
 ·have r:dx (bG (Array.replicate ops.size U)) T (bD [] bh)=λ_=>none:=by
   have:∀(T:List bg) (H:af),dx (bG (Array.replicate ops.size U)) T H=λ_=>none:=by
    intro T
    induction T with
    |nil=>intro H;rfl
    |cons t T k=>
     intro H
     funext l
     unfold dx;split
     ·rw[k,e];simp
     ·rw[k]
   exact this T _
  rw[r];exact e1.start o.drew g.new
 ·rw[q7 λt _ _=>e _]
 ·refine Nat.le_trans List.countP_le_length ?_;simp
end
def bf.Fh{α:Type}(x y:α):∀(p q:List jU) (t:bf α),p≠q->bf.dI x p (bf.dI y q t)=bf.dI y q (bf.dI x p t)
 |[],[],_,h=>absurd rfl h
 |[],d::q,.leaf,_=>by cases d<;>simp[bf.dI]
 |[],d::q,.node ..,_=>by cases d<;>simp[bf.dI]
 |d::p,[],.leaf,_=>by cases d<;>simp[bf.dI]
 |d::p,[],.node ..,_=>by cases d<;>simp[bf.dI]
 |d::p,e::q,.leaf,h=>by
  by_cases a:d=e
  ·subst a;have f:=bf.Fh x y p q .leaf (λb=>h (by rw[b]));cases d<;>simp[bf.dI,f]
  ·cases d<;>cases e<;>first|exact absurd rfl a|simp[bf.dI]
 |d::p,e::q,.node v g i j k l m n o,h=>by
  by_cases a:d=e
  ·subst a;have f:=λc=>bf.Fh x y p q c (λb=>h (by rw[b]))
   cases d<;>simp[bf.dI,f]
  ·cases d<;>cases e<;>first|exact absurd rfl a|simp[bf.dI]
def af.set_comm{H:af}{l m:Nat}{b c:an}(h:l≠m):(H.set l b).set m c=(H.set m c).set l b:=by
 simp only[af.set,bf.put];rw[bf.Fh _ _ _ _ _ (λe=>h (NN e).symm)]
section
variable {E:Env}{P:Program}{call:ai}{ops:Array Oper}{ord:List Nat}{bL bC:a8}{bh bK:af}{T:List bg}{ρ0:Env}{w0:World}{Q:Exit->Act->World->Prop}
def e7(ops:Array Oper)(b a:Nat):Array Oper:=ops.mapIdx λi aA=>if i=b then {aA with after:=aA.after.push ⟨a,default⟩}else aA
def h5(b a i:Nat)(aA:Oper):Oper:=if i=b then {aA with after:=aA.after.push ⟨a,default⟩}else aA
def iF(ops:Array Oper)(b a i:Nat):(e7 ops b a)[i]? =(ops[i]?).map (h5 b a i):=by
 simp only[e7,Array.getElem?_mapIdx];rfl
def jD(ops:Array Oper)(b a:Nat):(e7 ops b a).size=ops.size:=by simp[e7]
def kV(b a i:Nat)(aA:Oper):(h5 b a i aA).op=aA.op/\(h5 b a i aA).dst=aA.dst/\(h5 b a i aA).guard=aA.guard:=by unfold h5;split<;>exact⟨rfl,rfl,rfl⟩
def CZ{b a i:Nat}{aA:Oper}{L:Nat->Bool}(h:jC L aA)(d:i=b->L a=V):jC L (h5 b a i aA):=by
 unfold h5;split
 ·rename_i e;intro x c f;simp only[Array.mem_push]at c;rcases c with c|rfl
  ·exact h x c f
  ·exact d e
 ·exact h
def Im{b a i:Nat}{aA:Oper}{L:Nat->Bool}(h:jC L (h5 b a i aA)):jC L aA:=by
 unfold h5 at h;split at h
 ·intro x d c;exact h x (by simp[d]) c
 ·exact h
def PK(b a i:Nat)(C:a8)(aA:Oper):h_ (e7 ops b a) C (h5 b a i aA)=h_ ops C aA:=by
 unfold h_;rw[(kV b a i aA).2.2];cases aA.guard with
 |none=>rfl
 |some p=>
  obtain⟨j,want⟩:=p;simp only[iF];cases c:ops[j]? with
  |none=>rfl
  |some q=>simp only[Option.map_some,(kV b a j q).2.1]
def h6(b a:Nat)(t:bg):bg:=⟨t.i,h5 b a t.i t.aA,t.C,t.k⟩
def Dv(b a:Nat):∀(is:List Nat) (C:a8) (H:af),canRun P call (e7 ops b a) is C H=(canRun P call ops is C H).map λp=>(p.1.map (h6 b a),p.2)
 |[],_,_=>rfl
 |i::is,C,H=>by
  simp only[canRun,iF];cases d:ops[i]? with
  |none=>rfl
  |some aA=>
   simp only[Option.map_some];have c:fJ P call (e7 ops b a) (h5 b a i aA) C H=fJ P call ops aA C H:=by
    unfold fJ;rw[PK,(kV b a i aA).1]
   rw[c,(kV b a i aA).2.1];cases fJ P call ops aA C H with
   |none=>rfl
   |some k=>
    simp only
    cases C.put aA.dst k.val with
    |none=>rfl
    |some a2=>
     simp only
     rw[Dv b a is a2 (k.heap H)];cases canRun P call ops is a2 (k.heap H)with
     |none=>rfl
     |some p=>rfl
def p9(a:List Nat):∀(is:List Nat) (C:a8) (H:af),canRun P call ops (is++a) C H=(canRun P call ops is C H).bind λp=>(canRun P call ops a p.2.1 p.2.2).map λq=>(p.1++q.1,q.2)
 |[],C,H=>by
  simp only[List.nil_append,canRun,Option.bind_some];cases canRun P call ops a C H<;>rfl
 |i::is,C,H=>by
  simp only[List.cons_append,canRun];cases ops[i]? with
  |none=>rfl
  |some aA=>
   simp only
   cases fJ P call ops aA C H with
   |none=>rfl
   |some k=>
    simp only
    cases C.put aA.dst k.val with
    |none=>rfl
    |some a2=>
     simp only
     rw[p9 a is a2 (k.heap H)];cases canRun P call ops is a2 (k.heap H)with
     |none=>rfl
     |some p=>
      simp only[Option.bind_some];cases canRun P call ops a p.2.1 p.2.2<;>rfl
def Ir{b a i:Nat}{K:Act->World->Prop}{c:Act}{w:World}(h:wpOp P (e7 ops b a) Q i K c w):wpOp P ops Q i K c w:=by
 unfold wpOp at h ⊢;rw[iF]at h;have e:yielded (e7 ops b a) c.tmps=yielded ops c.tmps:=by
  funext j
  unfold yielded;rw[iF];cases ops[j]? with
  |none=>rfl
  |some q=>simp only[Option.map_some,Option.bind_some,(kV b a j q).2.1]
 rw[e]at h;cases d:ops[i]? with
 |none=>rw[d]at h;exact h
 |some aA=>
  rw[d]at h;simp only[Option.map_some]at h;unfold h5 at h;split at h<;>exact h
def Fi{b a:Nat}{e:Array Bool}(d:e.size=ops.size)(k:bG e a=V){i:Nat}:i∈Region.ready .any (e7 ops b a) e↔i∈Region.ready .any ops e:=by
 constructor
 ·intro h;obtain⟨aA,c,f,g,j⟩:=lV h (by rw[jD];exact d);rw[iF]at c;obtain⟨q,l,rfl⟩:=Option.map_eq_some_iff.1 c;exact zw l f (Im g) d
 ·intro h;obtain⟨aA,c,f,g,j⟩:=lV h d;exact zw (by rw[iF,c];rfl) f (CZ g λ_=>k) (by rw[jD];exact d)
def Iq{b a:Nat}:∀(fuel:Nat) {f:Array Bool} {c:Act} {w:World},f.size=ops.size->bG f a=V->wpAny P .any (e7 ops b a) Q fuel f c w->wpAny P .any ops Q fuel f c w
 |0,f,c,w,d,g,h=>by
  refine⟨?_,h.2⟩;rw[List.eq_nil_iff_forall_not_mem];intro i e;have:=(Fi (b:=b) d g).2 e;rw[h.1]at this;simp at this
 |fuel+1,f,c,w,d,g,h=>by
  refine⟨λk=>h.1 ?_,λi e=> ?_⟩
  ·rw[List.eq_nil_iff_forall_not_mem];intro i e;have:=(Fi d g).1 e;rw[k]at this;simp at this
  ·refine wpOp_mono (λl m bA=>Iq fuel (by simpa using d) ?_ bA) (Ir (h.2 i ((Fi d g).2 e)));obtain⟨aA,_,_,_,j⟩:=lV e d;rw[lQ (by rw[d];exact j)];split
   ·rfl
   ·exact g
def iO(bL:a8)(bh:af)(T:List bg)(N:Nat)(ρ0:Env)(w0:World)(L:Nat->Bool)(a:Act)(w:World):Prop:=∃ρ T1 T2,T=T1++T2/\(∀t∈T1,t.k.eH=V->L t.i=V)/\(∀t∈T2,(∃v H,t.k= .bs v H)->L t.i=U)/\ e1 ρ0 bh w0 N (dx L T2 (bD T1 bh)) ρ (bD T1 bh) w/\∃b:a8,dE ρ b a/\b.size=bL.size/\∀d,b.get d=e0 L d T (bL.get d)
def DP(b a:Nat):∀(T:List bg) (H:af),bD (T.map (h6 b a)) H=bD T H
 |[],_=>rfl
 |t::T,H=>DP b a T (t.k.heap H)
def zs(b a:Nat)(L:Nat->Bool):∀(T:List bg) (H:af),dx L (T.map (h6 b a)) H=dx L T H
 |[],_=>rfl
 |t::T,H=>by
  funext l
  simp only[List.map_cons,dx,h6];cases d:t.k with
  |new v c=>simp only[zs b a L T (H.push c)]
  |_=>exact congrFun (zs b a L T _) l
def Fj(b a:Nat)(L:Nat->Bool)(d:Nat):∀(T:List bg) (v:aa),e0 L d (T.map (h6 b a)) v=e0 L d T v
 |[],_=>rfl
 |t::T,v=>by
  simp only[List.map_cons,e0,h6,(kV b a t.i t.aA).2.1];exact Fj b a L d T _
def iO.up{b a:Nat}{N:Nat}{L:Nat->Bool}{c:Act}{w:World}(h:iO bL bh T N ρ0 w0 L c w):iO bL bh (T.map (h6 b a)) N ρ0 w0 L c w:=by
 obtain⟨ρ,T1,T2,rfl,i,j,k,g,l,m,n⟩:=h;refine⟨ρ,T1.map (h6 b a),T2.map (h6 b a),by simp,λt f e=> ?_,λt f e=> ?_,?_,g,l,m,λd=> ?_⟩
 ·obtain⟨u,hu,rfl⟩:=List.mem_map.1 f;exact i u hu e
 ·obtain⟨u,hu,rfl⟩:=List.mem_map.1 f;exact j u hu e
 ·rw[DP,zs];exact k
 ·rw[Fj];exact n d
def iO.down{b a:Nat}{N:Nat}{L:Nat->Bool}{c:Act}{w:World}(h:iO bL bh (T.map (h6 b a)) N ρ0 w0 L c w):iO bL bh T N ρ0 w0 L c w:=by
 obtain⟨ρ,T1,T2,e,m,n,i,j,o,p,q⟩:=h;obtain⟨k,l,rfl,rfl,rfl⟩:=List.map_eq_append_iff.1 e;refine⟨ρ,k,l,rfl,λt g f=>m (h6 b a t) (List.mem_map.2 ⟨t,g,rfl⟩) f,λt g f=>n (h6 b a t) (List.mem_map.2 ⟨t,g,rfl⟩) f,?_,j,o,p,λd=> ?_⟩
 ·rw[DP,zs]at i;exact i
 ·have:=q d;rwa[Fj]at this
def Fe{L:Nat->Bool}:∀{zD:List bg} {H:af},(∀t∈zD,∀v b,t.k≠ .new v b)->dx L zD H=λ_=>Y
 |[],_,_=>rfl
 |t::zD,H,h=>by
  rw[oM (h t (by simp))];exact Fe λu hu=>h u (by simp[hu])
def Fb{L:Nat->Bool}{zD D':List bg}(h:∀t∈zD,∀v b,t.k≠ .new v b)(bA:∀t∈D',∀v b,t.k≠ .new v b):∀{zC:List bg} {H:af},dx L (zC++zD) H=dx L (zC++D') H
 |[],H=>by rw[List.nil_append,List.nil_append,Fe h,Fe bA]
 |t::zC,H=>by
  funext l
  simp only[List.cons_append,dx];cases c:t.k with
  |new v a=>simp only[Fb h bA (zC:=zC) (H:=H.push a)]
  |_=>exact congrFun (Fb h bA (zC:=zC)) l
def iO.swap{A M:List bg}{ta tb ta2 tb2:bg}{N:Nat}{L:Nat->Bool}{c:Act}{w:World}(s:∀t∈M,t.k.eH=U)(m:∃v H,ta.k= .bs v H)(p:∃v H,tb.k= .bs v H)(o:∃v H,ta2.k= .bs v H)(q:∃v H,tb2.k= .bs v H)
  (S:ta2.i=ta.i) (T:tb2.i=tb.i) (E:ta.aA.dst=Y) (G:tb.aA.dst=Y) (F:ta2.aA.dst=Y) (K:tb2.aA.dst=Y) (z:L ta.i=U) (W:L tb.i=U) (h:iO bL bh (A++ta::(M++[tb])) N ρ0 w0 L c w):iO bL bh (A++(M++[tb2,ta2])) N ρ0 w0 L c w:=by
 obtain⟨ρ,T1,T2,e,r,O,P,C,ab,ad,ae⟩:=h;obtain⟨ak,af,m⟩:=m;obtain⟨am,ai,p⟩:=p;obtain⟨al,ah,o⟩:=o;obtain⟨an,aj,q⟩:=q;obtain⟨zC,Q,R⟩:∃zC,A=T1++zC/\T2=zC++ta::(M++[tb]):=by
  rcases List.append_eq_append_iff.1 e with⟨x,j,g⟩|⟨x,j,g⟩
  ·cases x with
   |nil=>rw[List.append_nil]at j;exact⟨[],by rw[j,List.append_nil],by rw[List.nil_append]at g;rw[<-g,List.nil_append]⟩
   |cons y x=>
    simp only[List.cons_append,List.cons.injEq]at g;obtain⟨rfl,_⟩:=g;have:=r ta (by rw[j];simp) (by rw[m];rfl);rw[z]at this;cases this
  ·exact⟨x,j,g⟩
 subst Q;subst R;have B:∀t∈M,∀v b,t.k≠ .new v b:=λt a v b e=>by have:=s t a;rw[e]at this;cases this
 refine⟨ρ,T1,zC++(M++[tb2,ta2]),by simp,r,λt a u=> ?_,?_,C,ab,ad,λd=> ?_⟩
 ·simp only[List.mem_append,List.mem_cons,List.not_mem_nil,or_false]at a;rcases a with a|a|rfl|rfl
  ·exact O t (by simp[a]) u
  ·obtain⟨v,H,e⟩:=u;have:=s t a;rw[e]at this;cases this
  ·rw[T];exact W
  ·rw[S];exact z
 ·rw[Fb (D':=ta::(M++[tb]))]
  ·exact P
  ·intro t a v b f;simp only[List.mem_append,List.mem_cons,List.not_mem_nil,or_false]at a;rcases a with a|rfl|rfl
   ·exact B t a v b f
   ·rw[q]at f;cases f
   ·rw[o]at f;cases f
  ·intro t a v b f;simp only[List.mem_append,List.mem_cons,List.not_mem_nil,or_false]at a;rcases a with rfl|a|rfl
   ·rw[m]at f;cases f
   ·exact B t a v b f
   ·rw[p]at f;cases f
 ·rw[ae d];have n:∀{x:aa} {t:bg},t.aA.dst=Y->∀{l:List bg},e0 L d (t::l) x=e0 L d l x:=λa=>by
   intro l;simp only[e0,a];rw[if_neg (by simp)]
  rw[kN,kN,kN,kN,n E,kN,kN,n G,n K,n F]
def ar3{a b:Nat}{ak al:List Nat}{T1 T2:List bg}{C:a8}(ab:a≠b)(o:Ctx P call (e7 ops b a) ak bL bh T1 bC bK)(F:Ctx P call (e7 ops a b) al bL bh T2 C bK)(s:aZ E P call)(p:E.le ρ0)
  (ai:∀L c w,L a=U->L b=U->iO bL bh T1 bK.next ρ0 w0 L c w->iO bL bh T2 bK.next ρ0 w0 L c w) (aa:C=bC) (v:∀ρ a w,dE ρ bC a->Step ρ0 bh w0 ρ bK w->Q .normal a w):
  ∀(fuel:Nat) (d:Array Bool) (c:Act) (w:World),Inv (e7 ops b a) bL bh T1 bK.next ρ0 w0 d c w->bG d a=U->bG d b=U->(List.range ops.size).countP (λj=> !bG d j)<=fuel->wpAny P .any ops Q fuel d c w:=by
 subst aa;have N:∀d c w,Inv (e7 ops b a) bL bh T1 bK.next ρ0 w0 d c w->Region.ready .any ops d=[]->Q .normal c w:=by
  intro d c w f k;have g:d.size=ops.size:=by have:=f.size;rwa[jD]at this
  have ah:Region.ready .any (e7 ops b a) d=[]:=by
   rw[List.eq_nil_iff_forall_not_mem];intro i n;obtain⟨aA,l,m,H,K⟩:=lV n f.size;rw[iF]at l;obtain⟨q,ae,rfl⟩:=Option.map_eq_some_iff.1 l;have:=zw ae m (Im H) g;rw[k]at this;simp at this
  obtain⟨ρ,l,m⟩:=o.final f (o.IE f.size ah);exact v ρ c w l m
 intro fuel
 induction fuel with
 |zero=>
  intro d c w f _ _ M;have g:d.size=ops.size:=by have:=f.size;rwa[jD]at this
  have k:Region.ready .any ops d=[]:=by
   rw[List.eq_nil_iff_forall_not_mem];intro i n;obtain⟨aA,l,m,H,K⟩:=lV n g;have am:0<(List.range ops.size).countP (λj=> !bG d j):=List.countP_pos_iff.2 ⟨i,by simpa using K,by simp[m]⟩;omega
  exact⟨k,N _ _ _ f k⟩
 |succ fuel aj=>
  intro d c w f A T M;have g:d.size=ops.size:=by have:=f.size;rwa[jD]at this
  refine⟨λk=>N _ _ _ f k,λi n=> ?_⟩;obtain⟨aA,R,y,hw,t⟩:=lV n g;have S:i<d.size:=by rw[g];exact t
  have x:=count_set S t y M;have r:∀j,bG (d.setIfInBounds i V) j=if j=i then V else bG d j:=λj=>lQ S j
  by_cases u:i=b
  ·
    subst u;have ad:Inv (e7 ops a i) bL bh T2 bK.next ρ0 w0 d c w:=by
     refine⟨by rw[jD];exact g,λj q O z=> ?_,ai _ _ _ A T f.mid⟩;rw[iF]at O;obtain⟨an,af,rfl⟩:=Option.map_eq_some_iff.1 O;have W:=f.closed j _ (by rw[iF,af];rfl) z;refine CZ (Im W) λe=> ?_
     subst e;rw[A]at z;cases z
    refine Ir (b:=a) (a:=i) (F.step s p ad (by rw[iF,R];rfl) y (CZ hw λe=>absurd e.symm ab) (by rw[jD];exact t) λdD B h=> ?_);refine Iq fuel (by simpa using g) (by rw[r,if_pos rfl]) (F.any s p v fuel _ dD B h ?_);rw[jD];exact x
  ·refine Ir (b:=b) (a:=a) (o.step s p f (by rw[iF,R];rfl) y (CZ hw λe=>absurd e u) (by rw[jD];exact t) λdD B h=> ?_);by_cases G:i=a
   ·subst G;refine Iq fuel (by simpa using g) (by rw[r,if_pos rfl]) (o.any s p v fuel _ dD B h ?_);rw[jD];exact x
   ·exact aj _ _ _ h (by rw[r,if_neg (Ne.symm G)];exact A) (by rw[r,if_neg (Ne.symm u)];exact T) x
def ih(ops:Array Oper)(a:Nat):Option (TypeId×Operand×Operand):=match ops[a]? with
 |some aA=>(match aA.op,aA.guard,aA.dst with
  | .store t x y,Y,Y=>D (t,x,y)
  |_,_,_=>Y)
 |none=>Y
def k4(ms:List Nat)(ops:Array Oper):List Nat->List Nat->Bool
 |[],_=>V
 |i::is,ids=>match ops[i]? with
  |some aA=>(match cls aA.op with
   | .new=>k4 ms ops is (i::ids)
   | .write=>ids.all (λj=>bH ms j i)&&k4 ms ops is (i::ids)
   | .call=>ids.all (λj=>bH ms j i)&&k4 ms ops is (i::ids)
   |_=>k4 ms ops is ids)
  |none=>V
def NX(ops:Array Oper)(ord:List Nat)(a b:Nat):Bool:=ord.all λi=>match ops[i]? with
 |some aA=>(match cls aA.op with
  | .read=>bH (bF ops) i a&&(bH (bF ops) i b&& !bH (bF ops) a i)
  | .both=>bH (bF ops) i a&&(bH (bF ops) i b&& !bH (bF ops) a i)
  |_=>V)
 |none=>V
def zq(ops:Array Oper)(ord:List Nat):Bool:=mX ops (bF ops) ord&&k4 (bF ops) ops ord []
def aq3{aA:Op}{C:a8}{H:af}{v:aa}{H':af}(h:h4 P call aA C H=D (.bs v H')):cls aA= .write\/cls aA= .call:=by
 unfold h4 at h;split at h
 ·unfold ky at h;split at h<;>cases h
 ·unfold j4 at h;split at h<;>cases h
 ·split at h
  ·cases h
  ·unfold j4 at h;split at h<;>cases h
 ·unfold zc at h;split at h<;>cases h
 ·rename_i a;exact .inl a
 ·rename_i a;exact .inr a
def aq5{aA:Op}{C:a8}{H:af}{v:aa}{b:an}(h:h4 P call aA C H=D (.new v b)):cls aA= .new:=by
 unfold h4 at h;split at h
 ·unfold ky at h;split at h<;>cases h
 ·unfold j4 at h;split at h<;>cases h
 ·split at h
  ·cases h
  ·unfold j4 at h;split at h<;>cases h
 ·rename_i a;exact a
 ·unfold jw at h;split at h
  ·split at h<;>cases h
  ·cases h
 ·split at h
  ·split at h
   ·unfold jw at h;split at h
    ·split at h<;>cases h
    ·cases h
   ·cases h
  ·cases h
def aq7{aA:Op}{C:a8}{H:af}{v:aa}(h:h4 P call aA C H=D (.read v)):cls aA= .read\/cls aA= .both:=by
 unfold h4 at h;split at h
 ·unfold ky at h;split at h<;>cases h
 ·rename_i a;exact .inl a
 ·rename_i a;exact .inr a
 ·unfold zc at h;split at h<;>cases h
 ·unfold jw at h;split at h
  ·split at h<;>cases h
  ·cases h
 ·split at h
  ·split at h
   ·unfold jw at h;split at h
    ·split at h<;>cases h
    ·cases h
   ·cases h
  ·cases h
def Es{aA:Oper}{C:a8}{H:af}{k:K}(h:fJ P call ops aA C H=D k)(a:k≠ .skip):h4 P call aA.op C H=D k:=by
 unfold fJ at h;split at h
 ·exact h
 ·simp only[a7]at h;exact absurd h.symm a
def nO{ms:List Nat}:∀{is:List Nat} {C:a8} {H:af} {T:List bg} {a2:a8} {H':af} {ids f:List Nat},canRun P call ops is C H=D (T,a2,H')->k4 ms ops is ids=V->(∀j∈f,j∈ids)->ia ms T f=V
 |[],C,H,T,a2,H',ids,f,h,_,_=>by
  simp only[canRun,a7,bI]at h;rw[<-h.1];rfl
 |i::is,C,H,T,a2,H',ids,f,h,c,e=>by
  simp only[canRun]at h;split at h
  ·cases h
  ·rename_i aA q;split at h
   ·cases h
   ·rename_i k p;split at h
    ·cases h
    ·rename_i t _;split at h
     ·cases h
     ·rename_i T1 u r g;simp only[a7,bI]at h;obtain⟨rfl,rfl,rfl⟩:=h;simp only[k4,q]at c;have sub:∀j∈i::f,j∈i::ids:=λj a=>by
       rcases List.mem_cons.1 a with rfl|a
       ·simp
       ·simp[e j a]
      have w:∀j∈f,j∈i::ids:=λj a=>by simp[e j a]
      have o:∃l,k4 ms ops is l=V/\(∀j∈ids,j∈l):=by
       split at c
       ·exact⟨_,c,λj a=>by simp[a]⟩
       ·simp only[Bool.and_eq_true]at c;exact⟨_,c.2,λj a=>by simp[a]⟩
       ·simp only[Bool.and_eq_true]at c;exact⟨_,c.2,λj a=>by simp[a]⟩
       ·exact⟨_,c,λj a=>a⟩
      simp only[ia];cases k with
      |bs v s=>
       have d:=aq3 (Es p (by simp));simp only[Bool.and_eq_true];rcases d with d|d<;>
       ·rw[d]at c;simp only[Bool.and_eq_true,List.all_eq_true]at c;refine⟨?_,nO g c.2 sub⟩;rw[List.all_eq_true];exactλj a=>c.1 j (e j a)
      |new v b=>
       have d:=aq5 (Es p (by simp));rw[d]at c;exact nO g c sub
      |pure v=>obtain⟨l,m,n⟩:=o;exact nO g m λj a=>n j (e j a)
      |read v=>obtain⟨l,m,n⟩:=o;exact nO g m λj a=>n j (e j a)
      |skip=>obtain⟨l,m,n⟩:=o;exact nO g m λj a=>n j (e j a)
def mw(P:Program)(ms:List Nat)(a:Nat->Bool)(T:List bg)(H:af):List bg->Bool
 |[]=>V
 |t::ts=>(match t.k with
  | .read v=>a t.i||fh ms (iL P t.aA.op t.C v) t.i T H
  |_=>V)&&mw P ms a T H ts
def OH{ms:List Nat}{a:Nat->Bool}{T:List bg}{H:af}{t:bg}{v:aa}(b:t.k= .read v):∀{ts:List bg},mw P ms a T H ts=V->t∈ts->a t.i=V\/fh ms (iL P t.aA.op t.C v) t.i T H=V
 |[],_,hm=>by simp at hm
 |u::ts,h,hm=>by
  simp only[mw,Bool.and_eq_true]at h;rcases List.mem_cons.1 hm with rfl|hm
  ·have:=h.1;rw[b]at this;simpa using this
  ·exact OH b h.2 hm
def OF{ms:List Nat}{a:Nat->Bool}{T:List bg}{H:af}:∀{ts:List bg},(∀t∈ts,∀v,t.k= .read v->a t.i=V\/fh ms (iL P t.aA.op t.C v) t.i T H=V)->jB P ms a T H ts=V
 |[],_=>rfl
 |t::ts,h=>by
  simp only[jB,Bool.and_eq_true];refine⟨?_,OF λu hu=>h u (by simp[hu])⟩;cases b:t.k with
  |read v=>
   simp only[Bool.or_eq_true];refine(h t (by simp) v b).imp id λhw=> ?_
   unfold nu;cases k3 ms t.i T U with
   |true=>rw[kh,hw];rfl
   |false=>rw[nM,hw]
  |_=>rfl
def I6{ops:Array Oper}{ord:List Nat}(h:zq ops ord=V)(fM:canRun P call ops ord bL bh=D (T,bC,bK))(hw:∀t∈T,∀v,t.k= .read v->hD ops (bF ops) ord t.i=V\/fh (bF ops) (iL P t.aA.op t.C v) t.i T bh=V):Ctx P call ops ord bL bh T bC bK:=by
 unfold zq at h;simp only[Bool.and_eq_true]at h;exact⟨fM,h.1,nO fM h.2 λj a=>a,OF hw⟩
def afZ{ord:List Nat}(fM:canRun P call ops ord bL bh=D (T,bC,bK)){t:bg}(b:t∈T){v:aa}(e:t.k= .read v):t.i∈ord/\ops[t.i]? =D t.aA/\(cls t.aA.op= .read\/cls t.aA.op= .both):=by
 obtain⟨A,B,d⟩:=List.append_of_mem b;obtain⟨c,_,a,_⟩:=xA (by rw[<-d];exact fM);rw[e]at a;exact⟨by rw[<-(iS fM).1,List.mem_map];exact⟨t,b,rfl⟩,c,aq7 (Es a (by simp))⟩
def DA{acc:List Nat}{j:Nat}{e:Edge}:∀{es:List Edge},e∈es->Region.binds .any e=V->(acc[e.on]?.getD 0).testBit j=V->(iI acc es).testBit j=V
 |[],h,_,_=>by simp at h
 |d::es,h,a,b=>by
  unfold iI;rcases List.mem_cons.1 h with rfl|h
  ·rw[if_pos a];simp[b]
  ·split
   ·simp[DA h a b]
   ·exact DA h a b
def aco(ops:Array Oper):(bF ops).length=ops.size:=by
 have hlen:∀(os:List Oper) (acc:List Nat),(jy os acc).length=acc.length+os.length:=by
  intro os
  induction os with
  |nil=>intro acc;simp[jy]
  |cons aA os a=>intro acc;simp[jy,a];omega
 unfold bF;rw[hlen];simp
def xx(b a:Nat):∀(i j:Nat),bH (bF ops) j i=V->bH (bF (e7 ops b a)) j i=true:=by
 intro i
 induction i using Nat.strongRecOn with
 |_ i m=>
  intro j c;cases f:ops[i]? with
  |none=>
   unfold bH at c;have:ops.size<=i:=by simpa using f
   rw[List.getElem?_eq_none (by rw[aco];exact this)]at c;simp at c
  |some aA=>
   unfold bH at c ⊢;rw[zh f]at c;rw[zh (show(e7 ops b a)[i]? =D (h5 b a i aA) by rw[iF,f];rfl)];simp only[Option.getD_some]at c ⊢;obtain⟨e,g,h,d⟩:=xE c;have l:e∈(h5 b a i aA).after.toList:=by
    unfold h5;split
    ·simp;exact .inl (by simpa using g)
    ·exact g
   rcases d with rfl|d
   ·exact xF l h
   ·refine DA l h ?_;rcases Nat.lt_or_ge e.on i with k|n
    ·rw[List.getElem?_take_of_lt k]at d ⊢;exact m e.on k j d
    ·rw[List.getElem?_eq_none (by simp;omega)]at d;simp at d
def Oy{b a:Nat}{ord d:List Nat}{i:Nat}(h:hD ops (bF ops) ord i=V)(g:∀j∈d,j∈ord):hD (e7 ops b a) (bF (e7 ops b a)) d i=true:=by
 unfold hD at h ⊢;rw[List.all_eq_true]at h ⊢;intro j e;have c:=h j (g j e);simp only[Bool.or_eq_true,beq_iff_eq]at c ⊢;rcases c with((c|c)|c)|c
 ·exact .inl (.inl (.inl c))
 ·refine .inl (.inl (.inr ?_));rw[iF];cases f:ops[j]? with
  |none=>rfl
  |some aA=>rw[f]at c;simp only[Option.map_some,(kV b a j aA).1];exact c
 ·exact .inl (.inr (xx b a _ _ c))
 ·exact .inr (xx b a _ _ c)
def C1{ms ms':List Nat}{b a:Nat}(hm:∀i j,bH ms j i=V->bH ms' j i=V){rd:af->Bool}{i:Nat}:∀{T:List bg} {H:af},fh ms rd i T H=V->fh ms' rd i (T.map (h6 b a)) H=V
 |[],H,h=>h
 |t::T,H,h=>by
  simp only[List.map_cons,fh,h6]at h ⊢;split at h
  ·rename_i c;rw[if_pos c];simp only[Bool.and_eq_true,Bool.or_eq_true]at h ⊢;exact⟨h.1.imp (hm _ _) id,h.2.imp (hm _ _) (C1 hm)⟩
  ·rename_i c;rw[if_neg c];exact C1 hm h
def Ip{ms:List Nat}{rd:af->Bool}{i:Nat}{ta tb:bg}{j W M:List bg}(d:ta.k.eH=V)(e:tb.k.eH=V)(a:∀t∈M,t.k.eH=U)(b:bH ms ta.i i=U)(c:bH ms i tb.i=V):∀{A:List bg} {H:af},fh ms rd i (A++ta::j) H=V->fh ms rd i (A++(M++tb::W)) H=V
 |[],H,h=>by
  simp only[List.nil_append,fh,d,if_true,b,Bool.false_or,Bool.and_eq_true]at h;have key:∀{M:List bg},(∀t∈M,t.k.eH=U)->fh ms rd i (M++tb::W) H=true:=by
   intro M
   induction M with
   |nil=>intro _;simp only[List.nil_append,fh,e,if_true,h.1,c,Bool.or_true,Bool.true_or,Bool.and_self]
   |cons t M g=>
    intro a;simp only[List.cons_append,fh];rw[if_neg (by rw[a t (by simp)];simp)];exact g λu hu=>a u (by simp[hu])
  exact key a
 |t::A,H,h=>by
  simp only[List.cons_append,fh]at h ⊢;split at h
  ·rename_i f;rw[if_pos f];simp only[Bool.and_eq_true,Bool.or_eq_true]at h ⊢;exact⟨h.1,h.2.imp id (Ip d e a b c)⟩
  ·rename_i f;rw[if_neg f];exact Ip d e a b c h
def Fg(ops:Array Oper)(xs:List Operand)(i:Nat):Bool:=match ops[i]? with
 |some aA=>(match cls aA.op,aA.guard,aA.dst with
  | .pure,Y,D d=>xs.all λx=>match x with
   | .tmp t=>t != d
   |_=>V
  | .pure,Y,Y=>V
  |_,_,_=>U)
 |none=>U
def IX{xs:List Operand}:∀{is:List Nat} {C:a8} {H:af} {M:List bg} {c:a8} {g:af},is.all (Fg ops xs)=V->canRun P call ops is C H=D (M,c,g)->g=H/\(∀t∈M,t.k.eH=U)/\(∀H',canRun P call ops is C H'=D (M,c,H'))/\∀x∈xs,br c x=br C x
 |[],C,H,M,c,g,_,h=>by
  simp only[canRun,a7,bI]at h;obtain⟨rfl,rfl,rfl⟩:=h;exact⟨rfl,λt b=>by simp at b,λH'=>rfl,λ_ _=>rfl⟩
 |i::is,C,H,M,c,g,r,h=>by
  simp only[List.all_cons,Bool.and_eq_true]at r;obtain⟨a,E⟩:=r;simp only[canRun]at h;split at h
  ·cases h
  ·rename_i aA q;unfold Fg at a;rw[q]at a;simp only at a;have B:cls aA.op= .pure/\aA.guard=Y/\∀d,aA.dst=D d->∀x∈xs,∀t,x= .tmp t->t≠d:=by
    split at a
    ·rename_i d m n e;refine⟨m,n,λz f x j t b=> ?_⟩;rw[e]at f;cases f;rw[List.all_eq_true]at a;have:=a x j;rw[b]at this;simpa using this
    ·rename_i m n e;exact⟨m,n,λz f=>by rw[e]at f;cases f⟩
    ·cases a
   obtain⟨u,w,y⟩:=B;have p:∀H',fJ P call ops aA C H'=ky (h9 P aA.op C):=λH'=>by
    unfold fJ h_;rw[w];simp only[h4,u]
   rw[p]at h;cases l:h9 P aA.op C with
   |none=>rw[l]at h;cases h
   |some v=>
    rw[l]at h;simp only[ky]at h;split at h
    ·cases h
    ·rename_i s o;split at h
     ·cases h
     ·rename_i T1 R Q F;simp only[a7,bI]at h;obtain⟨rfl,rfl,rfl⟩:=h;obtain⟨G,L,N,O⟩:=IX E F;refine⟨G,λt b=> ?_,λH'=> ?_,λx j=> ?_⟩
      ·rcases List.mem_cons.1 b with rfl|b
       ·rfl
       ·exact L t b
      ·have A:C.put aA.dst v=D s:=o;simp only[canRun,q,p,l,ky,K.val,A,K.heap];rw[N H']
      ·rw[O x j];cases x with
       |tmp t=>
        simp only[br];rw[a8.nT o t];split
        ·rename_i e;exact absurd rfl (y t e _ j t rfl)
        ·rfl
       |_=>rfl
def Dn{H H':af}{t:TypeId}{u v:aa}(h:aC P H t u v=D H'):∃l i c b,u= .ptr l i c/\l<H.next/\H'=H.set l b/\∀a:af,a.get l=H.get l->aC P a t u v=D (a.set l b):=by
 unfold aC at h;split at h
 ·rename_i l i c;split at h
  ·rename_i esz els d;split at h
   ·rename_i e he;split at h
    ·rename_i g;simp only[a7]at h;exact⟨l,i,c,_,rfl,af.iT d,h.symm,λa f=>by simp only[aC,f,d,he];rw[if_pos g]⟩
    ·cases h
   ·cases h
  ·rename_i j esz els d;split at h
   ·rename_i e he;split at h
    ·rename_i g;simp only[a7]at h;exact⟨l,i,c,_,rfl,af.iT d,h.symm,λa f=>by simp only[aC,f,d,he];rw[if_pos g]⟩
    ·cases h
   ·cases h
  ·cases h
 ·cases h
def aq2{a:Nat}{t:TypeId}{x y:Operand}(h:ih ops a=D (t,x,y)):∃aA,ops[a]? =D aA/\aA.op= .store t x y/\aA.guard=Y/\aA.dst=none:=by
 unfold ih at h;split at h
 ·rename_i aA e;split at h
  ·rename_i b c d;simp only[a7,bI]at h;obtain⟨rfl,rfl,rfl⟩:=h;exact⟨aA,e,b,c,d⟩
  ·cases h
 ·cases h
def xB{a:Nat}{t:TypeId}{x y:Operand}(h:ih ops a=D (t,x,y))(is:List Nat)(C:a8)(H:af):∃aA,ops[a]? =D aA/\aA.dst=Y/\canRun P call ops (a::is) C H=((br C x).bind λu=>(br C y).bind λv=>aC P H t u v).bind λH'=>(canRun P call ops is C H').map λp=>(⟨a,aA,C,.bs (.tuple []) H'⟩::p.1,p.2):=by
 obtain⟨aA,d,f,g,e⟩:=aq2 h;refine⟨aA,d,e,?_⟩;have j:fJ P call ops aA C H=jw H (iR P (.store t x y) C H):=by
  unfold fJ h_;rw[g,f];simp only[h4,cls]
 simp only[canRun,d,j,iR];cases hu:br C x with
 |none=>rfl
 |some u=>
  simp only[Option.bind_some];cases m:br C y with
  |none=>rfl
  |some v=>
   simp only[Option.bind_some];cases k:aC P H t u v with
   |none=>rfl
   |some H'=>
    obtain⟨l,i,c,b,_,_,rfl,_⟩:=Dn k;simp only[Option.map_some,jw,af.zj,cW,if_true,e,a8.put,K.heap,Option.bind_some];cases canRun P call ops is C (H.set l b)with
    |none=>rfl
    |some p=>rfl
def ze(C:a8)(x:Operand):Option Nat:=match br C x with
 |some (.ptr l _ _)=>D l
 |_=>Y
def CX(ops:Array Oper)(ord pre:List Nat)(a:Nat)(mid:List Nat)(b:Nat):Bool:=
 match ih ops a,ih ops b with
 |some (_,c,d),D _=>decide (ord=pre++a::(mid++[b]))&&(decide (a≠b)&&(mid.all (Fg ops [c,d])&&(NX ops ord a b&&(zq (e7 ops b a) ord&&zq (e7 ops a b) (pre++(mid++[b,a]))))))
 |_,_=>U
def pU(ops:Array Oper)(a b:Nat)(C:a8):Bool:=
 match ih ops a,ih ops b with
 |some (_,c,_),D (_,ad,_)=>(match ze C c,ze C ad with
  |some l,D m=> !Nat.beq l m
  |_,_=>U)
 |_,_=>U
def arb{id a b:Nat}{ord pre mid:List Nat}{act:Act}{w:World}(hm:P.follows .mixedOrders=V)(aX:aZ E P call)(r:CX ops ord pre a mid b=V)(O:canRun P call ops ord bL bh=D (T,bC,bK))(N:pU ops a b bC=V)(bm:mw P (bF ops) (hD ops (bF ops) ord) T bh T=V)
  (aV:Rel ρ0 bh w) (aq:hE E ρ0 bh.next bK.next) (bb:dE ρ0 bL act) (aU:∀ρ a ab,dE ρ bC a->Step ρ0 bh w ρ bK ab->Q .normal a ab):(Code.region id ops V).wp P Q act w:=by
 unfold CX at r;unfold pU at N;cases R:ih ops a with
 |none=>rw[R]at r;cases r
 |some bt=>
 obtain⟨bW,aB,aC⟩:=bt;cases ai:ih ops b with
 |none=>rw[R,ai]at r;cases r
 |some bu=>
 obtain⟨bX,ad,b1⟩:=bu;rw[R,ai]at r N;simp only[Bool.and_eq_true,decide_eq_true_eq]at r N;obtain⟨a_,aW,a2,al,a3,a4⟩:=r;subst a_;have au:=O;rw[p9]at O;obtain⟨⟨A,G,H1⟩,aQ,O⟩:=dG.1 O;obtain⟨⟨bf,bQ,bN⟩,K,he⟩:=Option.map_eq_some_iff.1 O;simp only[bI]at he;obtain⟨rfl,rfl,rfl⟩:=he;simp only at K;obtain⟨x,a5,an,aH⟩:=xB (P:=P) (call:=call) R (mid++[b]) G H1;rw[aH]at K;obtain⟨bJ,S,K⟩:=dG.1 K;obtain⟨⟨bR,bO,bD⟩,ae,he⟩:=Option.map_eq_some_iff.1 K;simp only[bI]at he;obtain⟨rfl,rfl,rfl⟩:=he;rw[p9]at ae;obtain⟨⟨M,f,aD⟩,aT,ae⟩:=dG.1 ae;obtain⟨⟨bS,bP,bE⟩,z,he⟩:=Option.map_eq_some_iff.1 ae;simp only[bI]at he;obtain⟨rfl,rfl,rfl⟩:=he
 simp only at z;obtain⟨rfl,ay,bo,az⟩:=IX a2 aT;obtain⟨y,a8,ap,aJ⟩:=xB (P:=P) (call:=call) ai [] f aD;rw[aJ]at z;obtain⟨bM,aa,z⟩:=dG.1 z;simp only[canRun,Option.map_some,a7,bI]at z;obtain⟨rfl,rfl,rfl⟩:=z;obtain⟨bY,bi,S⟩:=dG.1 S;obtain⟨bB,bj,S⟩:=dG.1 S;obtain⟨bZ,aw,aa⟩:=dG.1 aa;obtain⟨b0,bl,aa⟩:=dG.1 aa;obtain⟨g,bn,aG,o,rfl,bU,rfl,aL⟩:=Dn S;obtain⟨m,bV,bT,n,rfl,a1,rfl,aM⟩:=Dn aa;have av:br f aB=D (.ptr g bn aG):=(az aB (by simp)).trans bi;have bk:br f aC=D bB:=(az aC (by simp)).trans bj;have ak:g≠m:=by
  simp only[ze,av,aw]at N;intro e;subst e;simp at N
 simp only[af.zj]at a1;have bA:=aM H1 (by rw[af.gm ak]);have bz:=aL (H1.set m n) (by rw[af.gm (Ne.symm ak)]);have aY:(H1.set m n).set g o=(H1.set g o).set m n:=(af.set_comm ak).symm;have bc:canRun P call ops (pre++(mid++[b,a])) bL bh=D (A++(M++[⟨b,y,f,.bs (.tuple []) (H1.set m n)⟩,⟨a,x,f,.bs (.tuple []) ((H1.set g o).set m n)⟩]),f,(H1.set g o).set m n):=by
  obtain⟨bp,a6,_,aI⟩:=xB (P:=P) (call:=call) R [] f (H1.set m n);obtain rfl:bp=x:=Option.some.inj (a6.symm.trans a5);obtain⟨bq,a9,_,aK⟩:=xB (P:=P) (call:=call) ai [a] f H1;obtain rfl:bq=y:=Option.some.inj (a9.symm.trans a8);rw[p9,aQ];simp only[Option.bind_some];rw[p9,bo H1];simp only[Option.bind_some];rw[aK,aw,bl];simp only[Option.bind_some,bA];rw[aI,av,bk];simp only[Option.bind_some,bz,canRun,Option.map_some,aY]
 have ar:∀t∈A++⟨a,x,G,.bs (.tuple []) (H1.set g o)⟩::(M++[⟨b,y,f,.bs (.tuple []) ((H1.set g o).set m n)⟩]),∀v,t.k= .read v->bH (bF ops) a t.i=U/\bH (bF ops) t.i b=V/\(hD ops (bF ops) (pre++a::(mid++[b])) t.i=V\/fh (bF ops) (iL P t.aA.op t.C v) t.i (A++⟨a,x,G,.bs (.tuple []) (H1.set g o)⟩::(M++[⟨b,y,f,.bs (.tuple []) ((H1.set g o).set m n)⟩])) bh=V):=by
  intro t F v s;obtain⟨bv,bw,bx⟩:=afZ au F s;unfold NX at al;rw[List.all_eq_true]at al;have q:=al _ bv;rw[bw]at q;simp only at q;refine⟨?_,?_,OH s bm F⟩<;>
  ·rcases bx with am|am<;>
   ·rw[am]at q;simp only[Bool.and_eq_true,Bool.not_eq_true']at q
    first|exact q.2.2|exact q.2.1
 have aE:=I6 a3 (show canRun P call (e7 ops b a) (pre++a::(mid++[b])) bL bh=D (_,_,_) by rw[Dv,au];rfl) (λt F v s=>by
  obtain⟨u,hu,rfl⟩:=List.mem_map.1 F;obtain⟨_,_,aj⟩:=ar u hu v s;refine aj.imp (λh=>Oy h λj ah=>ah) λh=> ?_
  have:=C1 (b:=b) (a:=a) (ms':=bF (e7 ops b a)) (xx b a) h;simpa only[h6,(kV b a u.i u.aA).1]using this)
 have bd:∀j∈pre++(mid++[b,a]),j∈pre++a::(mid++[b]):=λj ah=>by
  simp only[List.mem_append,List.mem_cons,List.not_mem_nil,or_false]at ah ⊢;rcases ah with h|h|h|h
  ·exact .inl h
  ·exact .inr (.inr (.inl h))
  ·exact .inr (.inr (.inr h))
  ·exact .inr (.inl h)
 have aF:=I6 a4 (show canRun P call (e7 ops a b) (pre++(mid++[b,a])) bL bh=D (_,_,_) by rw[Dv,bc];rfl) (λt F v s=>by
  obtain⟨u,hu,rfl⟩:=List.mem_map.1 F;have be:u∈A++⟨a,x,G,.bs (.tuple []) (H1.set g o)⟩::(M++[⟨b,y,f,.bs (.tuple []) ((H1.set g o).set m n)⟩]):=by
   simp only[List.mem_append,List.mem_cons,List.not_mem_nil,or_false]at hu ⊢;rcases hu with h|h|rfl|rfl
   ·exact .inl h
   ·exact .inr (.inr (.inl h))
   ·cases s
   ·cases s
  obtain⟨aO,q,aj⟩:=ar u be v s;refine aj.imp (λh=>Oy h bd) λh=> ?_
  have aP:=Ip (tb:=⟨b,y,f,.bs (.tuple []) (H1.set m n)⟩) (W:=[⟨a,x,f,.bs (.tuple []) ((H1.set g o).set m n)⟩]) rfl rfl ay aO q h;have:=C1 (b:=a) (a:=b) (ms':=bF (e7 ops a b)) (xx a b) aP;simpa only[h6,(kV a b u.i u.aA).1]using this)
 have B:∀j,bG (Array.replicate ops.size U) j=false:=λj=>by
  unfold bG;rw[Array.getD_eq_getD_getElem?];by_cases h:j<ops.size<;>simp[h]
 refine wp_region_any hm (ar3 (ρ0:=ρ0) (w0:=w.drew) aW aE aF aX aq.le (λL c ab aR aS h=> ?_) rfl (λρ a ab aN p=>aU ρ a ab aN ?_) _ _ _ _ ⟨by rw[jD];simp,λi aA _ a0=>absurd a0 (by rw[B];simp),ρ0,[],_,rfl,by simp,λt _ _=>B _,?_,bL,bb,rfl,λd=> ?_⟩ (B a) (B b) ?_)
 ·exact(iO.swap (ta:=⟨a,x,G,.bs (.tuple []) (H1.set g o)⟩) (tb:=⟨b,y,f,.bs (.tuple []) ((H1.set g o).set m n)⟩) (ta2:=⟨a,x,f,.bs (.tuple []) ((H1.set g o).set m n)⟩) (tb2:=⟨b,y,f,.bs (.tuple []) (H1.set m n)⟩) ay ⟨_,_,rfl⟩ ⟨_,_,rfl⟩ ⟨_,_,rfl⟩ ⟨_,_,rfl⟩ rfl rfl an ap an ap aR aS h.down).up
 ·exact⟨p.le,p.next,p.hp,p.rel,p.os,p.tape,p.output,p.size,p.frame,p.own,p.ro⟩
 ·have ba:∀(T:List bg) (H:af),dx (bG (Array.replicate ops.size U)) T H=λ_=>none:=by
   intro T
   induction T with
   |nil=>intro H;rfl
   |cons t T ax=>
    intro H
    funext l
    unfold dx;split
    ·rw[ax,B];simp
    ·rw[ax]
  rw[ba];exact e1.start aV.drew aq.new
 ·rw[q7 λt _ _=>B _]
 ·refine Nat.le_trans List.countP_le_length ?_;simp
def pV(ops:Array Oper)(ord:List Nat):Option (Nat×Nat):=match ord.getLast? with
 |none=>Y
 |some b=>match ih ops b with
  |none=>Y
  |some _=>match ord.dropLast.find? (λa=>(ih ops a).isSome&& !bH (bF ops) a b)with
   |none=>Y
   |some a=>match CX ops ord (ord.dropLast.takeWhile λi=> !Nat.beq i a) a ((ord.dropLast.dropWhile λi=> !Nat.beq i a).drop 1) b with
    |true=>D (a,b)
    |false=>Y
def ara{ops:Array Oper}{ord:List Nat}{a b:Nat}(h:pV ops ord=D (a,b)):∃pre mid,CX ops ord pre a mid b=true:=by
 unfold pV at h;split at h
 ·cases h
 ·split at h
  ·cases h
  ·split at h
   ·cases h
   ·split at h
    ·rename_i c;simp only[a7,bI]at h;obtain⟨rfl,rfl⟩:=h;exact⟨_,_,c⟩
    ·cases h
end
def iN(P:Program)(call:ai)(ops:Array Oper):List Oper->a8->af->Option (a8×af)
 |[],C,H=>D (C,H)
 |aA::os,C,H=>match fJ P call ops aA C H with
  |none=>Y
  |some k=>match C.put aA.dst k.val with
   |none=>Y
   |some a2=>iN P call ops os a2 (k.heap H)
def O8(aA:Oper):Bool:=match cls aA.op with
 | .write=>V
 | .call=>V
 |_=>U
def need(m:Nat)(done:Nat):List Nat->List Nat
 |[]=>[]
 |j::a=>if m.testBit j&& !done.testBit j then j::need m done a else need m done a
def N_(done:Nat):List Nat->Nat
 |[]=>done
 |j::a=>N_ (done|||2^j) a
def Fa(ms all:List Nat):List (Nat×Oper)->Nat->List Nat
 |[],done=>need (2^all.length-1) done all
 |(i,aA)::is,done=>if O8 aA&& !done.testBit i then
   (let a:=need (ms[i]?.getD 0) done all
    a++i::Fa ms all is (N_ done a|||2^i))
  else Fa ms all is done
def OK:Nat->List Oper->List (Nat×Oper)
 |_,[]=>[]
 |i,aA::os=>(i,aA)::OK (i+1) os
def order(ops:Array Oper):List Nat:=Fa (bF ops) (List.range ops.size) (OK 0 ops.toList) 0
def ic(P:Program)(call:ai)(ops:Array Oper)(draw:Bool)(C:a8)(H:af):Option (a8×af):=
 match draw with
 |false=>iN P call ops ops.toList C H
 |true=>match canRun P call ops (order ops) C H with
  |none=>Y
  |some (T,a2,H')=>match pV ops (order ops)with
   |some (a,b)=>(match pU ops a b a2&&mw P (bF ops) (hD ops (bF ops) (order ops)) T H T with
    |false=>Y
    |true=>D (a2,H'))
   |none=>match ia (bF ops) T []with
    |false=>Y
    |true=>match jB P (bF ops) (hD ops (bF ops) (order ops)) T H T with
     |false=>Y
     |true=>D (a2,H')
def jQ:Code->Bool
 | .region _ ops V=>mX ops (bF ops) (order ops)
 | .seq a b=>jQ a&&jQ b
 | .cond _ a b=>jQ a&&jQ b
 | .block _ b=>jQ b
 | .loop b=>jQ b
 |_=>V
inductive hn where
 |normal
 |exit (id:Nat)
 |ret
def hn.DC:hn->Exit
 | .normal=> .normal
 | .exit id=> .exit id
 | .ret=> .ret
abbrev xv:=Array Oper->Bool->a8->af->Option (a8×af)
def iter(f:a8->af->Option (hn×a8×af)):Nat->a8->af->Option (hn×a8×af)
 |0,_,_=>Y
 |n+1,C,H=>match f C H with
  |some (.normal,a2,H')=>iter f n a2 H'
  |r=>r
def dr(hB:xv)(N:Nat):Code->a8->af->Option (hn×a8×af)
 | .skip,C,H=>D (.normal,C,H)
 | .region _ ops d,C,H=>match hB ops d C H with
  |some (a2,H')=>D (.normal,a2,H')
  |none=>Y
 | .seq a b,C,H=>match dr hB N a C H with
  |some (.normal,a2,H')=>dr hB N b a2 H'
  |r=>r
 | .cond c a b,C,H=>match br C c with
  |some (.bool V)=>dr hB N a C H
  |some (.bool U)=>dr hB N b C H
  |_=>Y
 | .block id b,C,H=>match dr hB N b C H with
  |some (.exit e,a2,H')=>if e=id then D (.normal,a2,H')else D (.exit e,a2,H')
  |r=>r
 | .loop b,C,H=>iter (λC H=>dr hB N b C H) N C H
 | .exit id,C,H=>D (.exit id,C,H)
 | .ret,C,H=>D (.ret,C,H)
 | .label _,C,H=>D (.normal,C,H)
 |_,_,_=>Y
def a8.qP(t:bf aa):Nat->List aa->bf aa
 |_,[]=>t
 |i,v::a=>a8.qP (bf.put v (i+1) t i) (i+1) a
def a8.enter(n:Nat)(args:List aa):a8:=⟨a8.qP .leaf 0 args,args.length+(n-args.length)⟩
def nG(P:Program)(C:a8)(H:af):ResultVar->Option aa
 | .tmp t=>D (C.get t)
 | .cell a t=>ah P H t (C.get a)
def il(P:Program)(C:a8)(H:af):List ResultVar->Option (List aa)
 |[]=>D []
 |r::rs=>match nG P C H r,il P C H rs with
  |some v,D a=>D (v::a)
  |_,_=>Y
def nE:List aa->aa
 |[v]=>v
 |a=> .tuple a
def xI(P:Program)(aY:ai)(N:Nat):Nat->ai
 |0,_,_,_=>Y
 |n+1,f,args,H=>match aY f args H with
 |some r=>D r
 |none=>match P.funcs[f]? with
  |none=>Y
  |some fn=>match fn.body with
   |none=>Y
   |some c=>match dr (ic P (xI P aY N n)) N c (a8.enter fn.ntmps args) H with
    |none=>Y
    |some (ex,C,H')=>match ex with
     | .exit _=>Y
     |_=>match il P C H' fn.results.toList with
      |none=>Y
      |some a=>D (nE a,H')
section
variable {E:Env}{P:Program}{aY:ai}{call:ai}{hB:xv}{N:Nat}
def Ic{ops:Array Oper}:∀{os:List Oper} {C a2:a8} {H H':af},iN P call ops os C H=D (a2,H')->H.next<=H'.next
 |[],C,a2,H,H',h=>by
  simp only[iN,a7,bI]at h;obtain⟨rfl,rfl⟩:=h;exact cW _
 |aA::os,C,a2,H,H',h=>by
  simp only[iN]at h;split at h
  ·cases h
  ·rename_i k a;split at h
   ·cases h
   ·exact Nat.le_trans (Er a) (Ic h)
def C7(hB:xv):Prop:=∀ops d C H a2 H',hB ops d C H=D (a2,H')->H.next<=H'.next
def N0:C7 (ic P call):=by
 intro ops d C H a2 H' h;unfold ic at h;split at h
 ·exact Ic h
 ·split at h
  ·cases h
  ·rename_i T b H1 a;split at h
   ·split at h
    ·cases h
    ·simp only[a7,bI]at h;obtain⟨rfl,rfl⟩:=h;rw[(iS a).2.1];exact(nK a).le
   ·split at h
    ·cases h
    ·split at h
     ·cases h
     ·simp only[a7,bI]at h;obtain⟨rfl,rfl⟩:=h;rw[(iS a).2.1];exact(nK a).le
def xT{f:a8->af->Option (hn×a8×af)}(a:∀C H ex a2 H',f C H=D (ex,a2,H')->H.next<=H'.next):∀{n:Nat} {C:a8} {H:af} {ex:hn} {a2:a8} {H':af},
  iter f n C H=D (ex,a2,H')->H.next<=H'.next
 |0,_,_,_,_,_,h=>by cases h
 |n+1,C,H,ex,a2,H',h=>by
  simp only[iter]at h;split at h
  ·rename_i c H1 b;exact Nat.le_trans (a _ _ _ _ _ b) (xT a h)
  ·exact a _ _ _ _ _ h
def Jb(m:C7 hB):∀(c:Code) {C:a8} {H:af} {ex:hn} {a2:a8} {H':af},dr hB N c C H=D (ex,a2,H')->H.next<=H'.next:=by
 intro c
 induction c with
 |skip=>intro C H ex a2 H' h;simp only[dr,a7,bI]at h;obtain⟨_,_,rfl⟩:=h;exact cW _
 |region id ops d=>
  intro C H ex a2 H' h;simp only[dr]at h;split at h
  ·rename_i k H1 e;simp only[a7,bI]at h;obtain⟨_,_,rfl⟩:=h;exact m _ _ _ _ _ _ e
  ·cases h
 |seq a b i j=>
  intro C H ex a2 H' h;simp only[dr]at h;split at h
  ·rename_i k H1 e;exact Nat.le_trans (i e) (j h)
  ·exact i h
 |cond c a b i j=>
  intro C H ex a2 H' h;simp only[dr]at h;split at h
  ·exact i h
  ·exact j h
  ·cases h
 |block id b g=>
  intro C H ex a2 H' h;simp only[dr]at h;split at h
  ·rename_i n k H1 e;have:=g e;split at h<;>(simp only[a7,bI]at h;obtain⟨_,_,rfl⟩:=h;exact this)
  ·exact g h
 |loop b g=>
  intro C H ex a2 H' h;simp only[dr]at h;exact xT (λ_ _ _ _ _ h=>g h) h
 |exit id=>intro C H ex a2 H' h;simp only[dr,a7,bI]at h;obtain⟨_,_,rfl⟩:=h;exact cW _
 |ret=>intro C H ex a2 H' h;simp only[dr,a7,bI]at h;obtain⟨_,_,rfl⟩:=h;exact cW _
 |label l=>intro C H ex a2 H' h;simp only[dr,a7,bI]at h;obtain⟨_,_,rfl⟩:=h;exact cW _
 |goto l=>intro C H ex a2 H' h;cases h
 |scope b g=>intro C H ex a2 H' h;cases h
 |rangeFunc f o a b i j=>intro C H ex a2 H' h;cases h
 |refuse y=>intro C H ex a2 H' h;cases h
def N9(q:aZ E P call){ops:Array Oper}{Q:Exit->Act->World->Prop}:∀{os:List Oper} {C a2:a8} {H H':af} {ρ:Env} {w:World} {a:Act},iN P call ops os C H=D (a2,H')->
  Rel ρ H w->hE E ρ H.next H'.next->dE ρ C a->(∀d dD c,dE d a2 dD->Step ρ H w d H' c->Q .normal dD c)->wpList P ops Q os a w
 |[],C,a2,H,H',ρ,w,a,h,e,_,f,o=>by
  simp only[iN,a7,bI]at h;obtain⟨rfl,rfl⟩:=h;exact o ρ a w f (.refl e)
 |aA::os,C,a2,H,H',ρ,w,a,h,e,p,f,o=>by
  simp only[iN]at h;split at h
  ·cases h
  ·rename_i k s;split at h
   ·cases h
   ·rename_i ah y;have t:=Ic h;have ai:=Er s;have go:∀x c d,bb d k.val x->Step ρ H w d (k.heap H) c->wpList P ops Q os (a.put aA.dst x) c:=λx c d i n=>
     N9 q h n.rel (p.after n) ((f.mono n.le).put y i) λad u ab j m=>o ad u ab j (n.trans m)
    unfold wpList;rw[IU f aA];rcases oC s with⟨hw,g⟩|⟨hw,rfl⟩
    ·rw[hw];simp only[if_true];refine .inl ?_;cases k with
     |skip=>exact g.elim
     |pure v=>exact NR g f λx i=>go x w ρ i (.refl e)
     |read v=>exact NZ e g f λx i=>go x w ρ i (.refl e)
     |new v b=>
      have r:ρ H.next=none:=p.new _ (cW _) (by simp only[K.heap,af.jP]at t;omega)
      refine Np g f r λx c d loc B M N O R S T W aa F G L=>go x c d B ?_
      have z:e1 ρ H w (H.next+1) (λ_=>Y) ρ H w:=e1.start e λl j m=>by
       have:l=H.next:=bn
       rw[this];exact r
      have A:=z.early (cW _) bn rfl M N O R S T W aa F G L;exact(A.OA (b:=b) (by simp)).done rfl
     |bs v ae=>
      exact I_ q e (p.left t) g f λx c d j m=>go x c d j m
    ·rw[hw];simp only[Bool.false_eq_true,if_false];exact go undef w ρ (.tuple [] [] .nil) (.refl e)
def Ix(E:Env)(P:Program)(hB:xv):Prop:=∀(id:Nat) (ops:Array Oper) (d:Bool) (C:a8) (H:af) (a2:a8) (H':af),hB ops d C H=D (a2,H')->(d=V->mX ops (bF ops) (order ops)=V)->∀(ρ:Env) (w:World) (a:Act) (Q:Exit->Act->World->Prop),Rel ρ H w->hE E ρ H.next H'.next->dE ρ C a->(∀c dD b,dE c a2 dD->Step ρ H w c H' b->Q .normal dD b)->(Code.region id ops d).wp P Q a w
def N1(hm:P.follows .mixedOrders=V)(e:aZ E P call):Ix E P (ic P call):=by
 intro id ops d C H a2 H' h k ρ w a Q c f i b;unfold ic at h;split at h
 ·exact wp_region_list (N9 e h c f i b)
 ·split at h
  ·cases h
  ·rename_i T p H1 j;split at h
   ·rename_i dD eG n;split at h
    ·cases h
    ·rename_i g;simp only[a7,bI]at h;obtain⟨rfl,rfl⟩:=h;obtain⟨pre,mid,m⟩:=ara n;rw[Bool.and_eq_true]at g;exact arb hm e m j g.1 g.2 c f i b
   ·split at h
    ·cases h
    ·rename_i l;split at h
     ·cases h
     ·rename_i o;simp only[a7,bI]at h;obtain⟨rfl,rfl⟩:=h;exact ar4 hm e ⟨j,k rfl,l,o⟩ c f i b
def ar5{c:Code}{Q:Exit->Act->World->Prop}(j:Nat->Act->World->Prop)(round:∀n a w,j n a w->∃m,n=m+1/\c.wp P (Exit.then (j m) Q) a w){n:Nat}{a:Act}{w:World}(t:j n a w):(Code.loop c).wp P Q a w:=by
 intro b k cs;have key:∀n a w,j n a w->∃e dD o,Q e dD o/\Arrives P (lone (b.at a (.code c:: .inLoop c::k)) cs w) b k cs e dD o:=by
  intro n
  induction n with
  |zero=>intro a w h;obtain⟨m,hm,_⟩:=round 0 a w h;omega
  |succ n u=>
   intro a w h;obtain⟨m,hm,hw⟩:=round _ a w h;obtain rfl:m=n:=bn;obtain⟨e,g,i,f,d⟩:=hw b (.inLoop c::k) cs;cases e with
   |normal=>
    obtain⟨q,p,v,s,r⟩:=u g i f;exact⟨q,p,v,s,.of_steps (Steps.trans d (.one step_inLoop)) r⟩
   |exit id=>exact⟨_,g,i,f,.pass (x:= .inLoop c) rfl (λ_ _=> .inl (by simp)) d⟩
   |goto l=>exact⟨_,g,i,f,.pass (x:= .inLoop c) rfl (λ_ _=> .inl (by simp)) d⟩
   |ret=>exact⟨_,g,i,f,.pass (x:= .inLoop c) rfl (λ_ _=> .inl (by simp)) d⟩
   |panic y=>exact⟨_,g,i,f,.pass (x:= .inLoop c) rfl (λ_ _=> .inl (by simp)) d⟩
   |outgrown=>exact⟨_,g,i,f,.pass (x:= .inLoop c) rfl (λ_ _=> .inl (by simp)) d⟩
 obtain⟨e,dD,o,f,d⟩:=key _ a w t;exact⟨e,dD,o,f,.of_steps (.one step_loop) d⟩
def C3(E:Env)(P:Program)(c:Code)(f:a8->af->Option (hn×a8×af)):Prop:=∀(C:a8) (H:af) (ex:hn) (a2:a8) (H':af),f C H=D (ex,a2,H')->∀(ρ:Env) (w:World) (a:Act) (Q:Exit->Act->World->Prop),Rel ρ H w->hE E ρ H.next H'.next->dE ρ C a->(∀d dD b,dE d a2 dD->Step ρ H w d H' b->Q ex.DC dD b)->c.wp P Q a w
def R5{c:Code}{f:a8->af->Option (hn×a8×af)}(p:C3 E P c f)(r:∀C H ex a2 H',f C H=D (ex,a2,H')->H.next<=H'.next)(n:Nat):C3 E P (.loop c) (iter f n):=by
 intro C H ex a2 H' h ρ w a Q z q F y;refine ar5 (n:=n) (λn g i=>∃j H1 e,iter f n j H1=D (ex,a2,H')/\Step ρ H w e H1 i/\dE e j g) ?_ ⟨C,H,ρ,h,.refl z,F⟩;rintro n g i ⟨j,H1,e,b,d,s⟩;cases n with
 |zero=>cases b
 |succ n=>
  refine⟨n,rfl,?_⟩;have hle:=xT r b;simp only[iter]at b;split at b
  ·rename_i v u x;have A:=xT r b;refine p _ _ _ _ _ x e i g _ d.rel (hE.left (hE.after q d) A) s λm o t k l=> ?_
   exact⟨v,u,m,b,d.trans l,k⟩
  ·rename_i B;refine p _ _ _ _ _ b e i g _ d.rel (hE.after q d) s λm o t k l=> ?_
   have:=y m o t k (d.trans l);cases ex with
   |normal=>exact absurd b (B _ _)
   |exit id=>exact this
   |ret=>exact this
def Jd(G:C7 hB)(R:Ix E P hB):∀(c:Code),jQ c=V->C3 E P c (dr hB N c):=by
 intro c
 induction c with
 |skip=>
  intro _ C H ex a2 H' h ρ w a Q i j e g;simp only[dr,a7,bI]at h;obtain⟨rfl,rfl,rfl⟩:=h;exact wp_skip (g ρ a w e (.refl i))
 |region id ops d=>
  intro k C H ex a2 H' h ρ w a Q i j e g;simp only[dr]at h;split at h
  ·rename_i F H1 m;simp only[a7,bI]at h;obtain⟨rfl,rfl,rfl⟩:=h;exact R id ops d C H _ _ m (λO=>by subst O;exact k) ρ w a Q i j e g
  ·cases h
 |seq x y t u=>
  intro k C H ex a2 H' h ρ w a Q i j e g;simp only[jQ,Bool.and_eq_true]at k;simp only[dr]at h;refine wp_seq ?_;split at h
  ·rename_i F H1 m;have hle:=Jb G y h;refine t k.1 _ _ _ _ _ m ρ w a _ i (j.left hle) e λr o q p n=> ?_
   exact u k.2 _ _ _ _ _ h r q o Q n.rel (j.after n) p λW K T L M=>g W K T L (n.trans M)
  ·rename_i B;refine t k.1 _ _ _ _ _ h ρ w a _ i j e λr o q p n=> ?_
   have:=g r o q p n;cases ex with
   |normal=>exact absurd h (B _ _)
   |exit id=>exact this
   |ret=>exact this
 |cond c x y t u=>
  intro k C H ex a2 H' h ρ w a Q i j e g;simp only[jQ,Bool.and_eq_true]at k;simp only[dr]at h;split at h
  ·rename_i v;have m:=du e v;refine wp_cond_true (by generalize a.eval c=z at m;cases m;rfl) ?_;exact t k.1 _ _ _ _ _ h ρ w a Q i j e g
  ·rename_i v;have m:=du e v;refine wp_cond_false (by generalize a.eval c=z at m;cases m;rfl) ?_;exact u k.2 _ _ _ _ _ h ρ w a Q i j e g
  ·cases h
 |block id b s=>
  intro k C H ex a2 H' h ρ w a Q i j e g;simp only[dr]at h;refine wp_block ?_;split at h
  ·rename_i S F H1 m;split at h
   ·rename_i A;simp only[a7,bI]at h;obtain⟨rfl,rfl,rfl⟩:=h;refine s k _ _ _ _ _ m ρ w a _ i j e λr o q p n=> ?_
    have:=g r o q p n;simp only[hn.DC,Exit.inBlock,A,if_true];exact this
   ·rename_i A;simp only[a7,bI]at h;obtain⟨rfl,rfl,rfl⟩:=h;refine s k _ _ _ _ _ m ρ w a _ i j e λr o q p n=> ?_
    have:=g r o q p n;simp only[hn.DC,Exit.inBlock,A,if_false];exact this
  ·rename_i B;refine s k _ _ _ _ _ h ρ w a _ i j e λr o q p n=> ?_
   have:=g r o q p n;cases ex with
   |normal=>exact this
   |exit S=>exact absurd h (B _ _ _)
   |ret=>exact this
 |loop b s=>
  intro k C H ex a2 H' h ρ w a Q i j e g;simp only[dr]at h;exact R5 (s k) (λ_ _ _ _ _ h=>Jb G b h) N C H ex a2 H' h ρ w a Q i j e g
 |exit id=>
  intro _ C H ex a2 H' h ρ w a Q i j e g;simp only[dr,a7,bI]at h;obtain⟨rfl,rfl,rfl⟩:=h;exact wp_exit (g ρ a w e (.refl i))
 |ret=>
  intro _ C H ex a2 H' h ρ w a Q i j e g;simp only[dr,a7,bI]at h;obtain⟨rfl,rfl,rfl⟩:=h;exact wp_ret (g ρ a w e (.refl i))
 |label l=>
  intro _ C H ex a2 H' h ρ w a Q i j e g;simp only[dr,a7,bI]at h;obtain⟨rfl,rfl,rfl⟩:=h;exact wp_label (g ρ a w e (.refl i))
 |goto l=>intro _ C H ex a2 H' h;cases h
 |scope b s=>intro _ C H ex a2 H' h;cases h
 |rangeFunc f aa a b t u=>intro _ C H ex a2 H' h;cases h
 |refuse y=>intro _ C H ex a2 H' h;cases h
def ED:∀(args:List aa) (t:bf aa) (i d:Nat),(a8.qP t i args).get d=if i<=d/\d<i+args.length then args[d-i]? else t.get d
 |[],t,i,d=>by simp only[a8.qP,List.length_nil];rw[if_neg bn]
 |v::c,t,i,d=>by
  simp only[a8.qP];rw[ED c];by_cases a:i+1<=d/\d<i+1+c.length
  ·rw[if_pos a,if_pos (by simp;omega),show d-i=(d-(i+1))+1 by omega];simp
  ·rw[if_neg a];by_cases b:d=i
   ·subst b;rw[bf.qg _ _ _ _ bn,if_pos (by simp)];simp
   ·rw[bf.nU _ _ _ _ _ (Ne.symm b),if_neg (by simp;omega)]
def Ja{ρ:Env}{args:List aa}{xs:List Value}(h:bj ρ args xs)(n:Nat):dE ρ (a8.enter n args) {tmps:=xs.toArray++Array.replicate (n-xs.toArray.size) undef,defers:=[]}:=by
 have e:=h.length;refine⟨by simp[a8.enter,e],λd=> ?_,rfl⟩;unfold a8.get a8.enter;simp only
 rw[ED];rw[Array.getD_eq_getD_getElem?];by_cases c:d<args.length
 ·rw[if_pos bn];obtain⟨v,b⟩:∃v,args[d]? =D v:=⟨args[d],by simp[c]⟩;obtain⟨x,g,f⟩:=h.get d v b;have a:(xs.toArray++Array.replicate (n-xs.toArray.size) undef)[d]? =D x:=by
   rw[Array.getElem?_append_left (by simp;omega)];simpa using g
  rw[a];simp only[Nat.sub_zero,b,Option.getD_some];exact f
 ·rw[if_neg bn];have a:((xs.toArray++Array.replicate (n-xs.toArray.size) undef)[d]?).getD undef=undef:=by
   rw[Array.getElem?_append_right (by simp;omega)];simp only[Array.getElem?_replicate];split<;>rfl
  rw[a,bf.nS];exact .tuple [] [] .nil
def q9(tmps:Array Value):ResultVar->Sem Value
 | .tmp t=>pure (tmps.getD t undef)
 | .cell b t=>do loadVar t (<-asAddr (tmps.getD b undef))
def PD{ρ:Env}{H:af}{w:World}{C:a8}{a:Act}(k:Rel ρ H w)(f:dE ρ C a){r:ResultVar}{v:aa}(h:nG P C H r=D v):
  ∃x,(q9 a.tmps r).run P w= .ok x w/\bb ρ v x:=by
 cases r with
 |tmp t=>
  simp only[nG,a7]at h;subst h;exact⟨_,rfl,f.get t⟩
 |cell b t=>
  simp only[nG]at h;obtain⟨x,g,j⟩:=Dd k h (f.get b);refine⟨x,?_,j⟩;have d:=f.get b;simp only[q9];generalize a.tmps.getD b undef=z at d g ⊢;have e:∃l i c,C.get b= .ptr l i c:=by
   generalize C.get b=u at h;unfold ah at h;cases u<;>first|exact⟨_,_,_,rfl⟩|(exfalso;simp at h)
  obtain⟨l,i,c,e⟩:=e;rw[e]at d;cases d;simpa [Instr.loadAt,Instr.sureAddr,asAddr]using g
def IQ{ρ:Env}{H:af}{w:World}{C:a8}{a:Act}(c:Rel ρ H w)(d:dE ρ C a):∀{rs:List ResultVar} {b:List aa},il P C H rs=D b->
  ∃xs:List Value,(rs.mapM (q9 a.tmps)).run P w= .ok xs w/\bj ρ b xs
 |[],b,h=>by simp only[il,a7]at h;subst h;exact⟨[],by simp[Sem.run_pure],.nil⟩
 |r::rs,b,h=>by
  simp only[il]at h;split at h
  ·rename_i v l j k;simp only[a7]at h;subst h;obtain⟨x,e,f⟩:=PD c d j;obtain⟨xs,g,i⟩:=IQ c d k;refine⟨x::xs,?_,.cons _ _ _ _ f i⟩;rw[List.mapM_cons];simp only[Sem.run_bind,Result.andThen_ok,Sem.run_pure,e,g]
  ·cases h
def af1(fn:Func)(tmps:Array Value):results fn tmps=(do
  let a<-fn.results.mapM (q9 tmps)
  pure (if h:a.size=1 then a[0]else .tuple a)):=by
 unfold results
 congr 1
def N2{ρ:Env}{H:af}{w:World}{C:a8}{a:Act}(j:Rel ρ H w)(k:dE ρ C a){fn:Func}{c:List aa}(h:il P C H fn.results.toList=D c):
  ∃x,(results fn a.tmps).run P w= .ok x w/\bb ρ (nE c) x:=by
 obtain⟨xs,d,e⟩:=IQ j k h;have hm:(fn.results.mapM (q9 a.tmps)).run P w= .ok xs.toArray w:=by
  rw[Array.mapM_eq_mapM_toList];simp only[Sem.run_map,d,Result.andThen_ok]
 refine⟨if h:xs.toArray.size=1 then xs.toArray[0]else .tuple xs.toArray,?_,?_⟩
 ·rw[af1];simp only[Sem.run_bind,hm,Result.andThen_ok,Sem.run_pure]
 ·cases e with
  |nil=>exact .tuple [] [] .nil
  |cons v x m p b f=>
   cases f with
   |nil=>exact b
   |cons l o n q g i=>
    simp only[nE];rw[dif_neg (by simp)];exact .tuple _ _ (.cons _ _ _ _ b (.cons _ _ _ _ g i))
structure iC(P:Program):Prop where
 mixed:P.follows .mixedOrders=true
 names:∀fn∈P.funcs,(fn.name== "runtime.NumGoroutine")=false
 NQ:∀(f:Nat) (fn:Func) (c:Code),P.funcs[f]? =some fn->fn.body=some c->jQ c=true
def Je(a:iC P)(j:aZ E P aY):∀n,aZ E P (xI P aY N n)
 |0=>λg args H v H' h=>by cases h
 |n+1=>by
  intro g args H v H' h ρ w xs k m l y next o
  simp only[xI]at h;split at h
  ·rename_i r B;cases h;exact j g args H v H' B ρ w xs k m l y next o
  split at h
  ·cases h
  ·rename_i fn b;split at h
   ·cases h
   ·rename_i c e;split at h
    ·cases h
    ·rename_i ex C H1 t;have K:=Je a j n;have s:=Jd (N:=N) N0 (N1 a.mixed K) c (a.NQ _ _ _ b e);have z:(fn.name== "runtime.NumGoroutine")=false:=a.names fn (Array.mem_of_getElem? b);have F:(callFunc g xs.toArray).run P w= .ok (.enter g xs.toArray) w:=by
      unfold callFunc;simp[b,e];intro u;simp[u]at z
     unfold kY;rw[F];simp only
     split at h
     ·cases h
     ·rename_i A;split at h
      ·cases h
      ·rename_i O G;simp only[a7,bI]at h;obtain⟨rfl,rfl⟩:=h;refine calls_of_wp b e (s _ _ _ _ _ t ρ w _ _ k m (Ja l fn.ntmps) λM dD L d i=> ?_);obtain⟨x,f,q⟩:=N2 i.rel d G;have p:=o x L M q i;cases ex with
       |normal=>exact⟨d.none,x,f,p⟩
       |ret=>exact⟨d.none,x,f,p⟩
       |exit id=>exact absurd rfl (A id)
end
section
variable {E:Env}{P:Program}{aY:ai}
def pZ(P:Program)(aY:ai)(f:Nat)(args:List aa)(H:af)(r:aa×af):Prop:=∃k,∀N,k<=N->∀n,k<=n->xI P aY N n f args H=D r
def pZ.uniq{f:Nat}{args:List aa}{H:af}{r s:aa×af}(h:pZ P aY f args H r)(bA:pZ P aY f args H s):r=s:=by
 obtain⟨k,c⟩:=h;obtain⟨j,b⟩:=bA;have a:=c (max k j) (Nat.le_max_left ..) (max k j) (Nat.le_max_left ..);rw[b (max k j) (Nat.le_max_right ..) (max k j) (Nat.le_max_right ..)]at a;exact(Option.some.inj a).symm
open Classical in
noncomputable def nQ(P:Program)(aY:ai):ai:=λf args H=>if h:∃r,pZ P aY f args H r then D h.choose else Y
def P9{f:Nat}{args:List aa}{H:af}{r:aa×af}(h:nQ P aY f args H=D r):pZ P aY f args H r:=by
 unfold nQ at h;split at h
 ·rename_i a;rw[<-Option.some.inj h];exact a.choose_spec
 ·cases h
def P_(b:iC P)(a:aZ E P aY):aZ E P (nQ P aY):=by
 intro g args H v H' h;obtain⟨k,c⟩:=P9 h;exact Je b a k g args H v H' (c k (cW _) k (cW _))
