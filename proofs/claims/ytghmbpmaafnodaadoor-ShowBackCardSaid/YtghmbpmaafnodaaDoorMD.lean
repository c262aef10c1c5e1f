/-
  Texts of one proof, laid together: Hv16 Hv17 Hv21 Hv22 Hv23.
-/
import Derived.Test.YtghmbpmaafnodaaDoorMC
set_option linter.unusedVariables false
set_option linter.unusedSimpArgs false
set_option linter.defProp false
open Option renaming some→D,none→C
open Bool renaming true→X,false→U
namespace Go.bn
section
variable {E:Env}{P:Program}{call:aD}{ops:Array Oper}{ord:List Nat}{e_ cU:bl}{H0 b5:af}{T:List b1}{ρ0:Env}{w0:World}{Q:Exit->Act->World->Prop}
def Ctx.uniq(c:Ctx P call ops ord e_ H0 T cU b5){A B:List b1}{t:b1}(h:T=A++t::B){u:b1}(hu:u∈T)(he:u.i=t.i):u=t:=by
 rw[h]at hu;rcases List.mem_append.1 hu with hu|hu
 ·exact absurd he (c.before h hu).1
 ·rcases List.mem_cons.1 hu with rfl|hu
  ·rfl
  ·exact absurd he.symm (c.after h hu).1
def xR(H0:af)(T:List b1)(N:Nat)(ρ0:Env)(w0:World)(L:Nat->Bool)(ρ:Env)(w:World)(T1 T2:List b1):Prop:=T=T1++T2/\(∀t∈T1,t.k.fF=X->L t.i=X)/\(∀t∈T2,(∃v H,t.k= .eL v H)->L t.i=U)/\fK ρ0 H0 w0 N (eO L T2 (cI T1 H0)) ρ (cI T1 H0) w
def Ctx.next(c:Ctx P call ops ord e_ H0 T cU b5){A B:List b1}{t:b1}(h:T=A++t::B){listed:Array Bool}(ar:listed.size=ops.size)(z:ta ops (dt listed))(N:dt listed t.i=U)
  (hw:rr (dt listed) t.o) {ρ:Env} {l:bl} {a:Act} {x:Value} {w:World} (R:ey ρ l a) (K:l.size=e_.size) (S:∀d,l.get d=gO (dt listed) d T (e_.get d)) (Q:bq ρ t.k.val x) {T1 T2:List b1}
  (m:xR H0 T b5.next ρ0 w0 (dt (listed.setIfInBounds t.i X)) ρ w T1 T2):Inv ops e_ H0 T b5.next ρ0 w0 (listed.setIfInBounds t.i X) (a.put t.o.dst x) w:=by
 obtain⟨H,_,_,L⟩:=c.at h;have F:t.i<listed.size:=by rw[ar];exact(Array.getElem?_eq_some_iff.1 H).1
 have v:dt (listed.setIfInBounds t.i X) t.i=true:=by rw[vW F];simp
 have n:∀j,j≠t.i->dt (listed.setIfInBounds t.i X) j=dt listed j:=λj s=>by rw[vW F];simp[s]
 have G:∀j,dt listed j=X->dt (listed.setIfInBounds t.i X) j=true:=λj s=>by
  by_cases e:j=t.i
  ·rw[e];exact v
  ·rw[n j e];exact s
 have O:∃bj,l.put t.o.dst t.k.val=D bj:=by
  cases M:t.o.dst with
  |none=>exact⟨l,rfl⟩
  |some d=>
   have:=L d M;exact⟨{l with t:=bF.put t.k.val (d+1) l.t d},by simp only[bl.put];rw[if_pos (by rw[K];exact this)]⟩
 obtain⟨bj,p⟩:=O;refine⟨by simpa using ar,λi o q E e he y=> ?_,ρ,T1,T2,m.1,m.2.1,m.2.2.1,m.2.2.2,bj,R.put p Q,by rw[bl.sU p,K],λd=> ?_⟩
 ·by_cases u:i=t.i
  ·subst u;rw[H]at q;cases q;exact G _ (hw e he y)
  ·rw[n i u]at E;exact G _ (z i o q E e he y)
 ·rw[bl.tI p d,c.fh h z N v n d,S d]
def Ctx.norm(c:Ctx P call ops ord e_ H0 T cU b5){N:Nat}{L:Nat->Bool}{ρ:Env}{w:World}:∀{T2 T1:List b1},xR H0 T N ρ0 w0 L ρ w T1 T2->
  ∃y n,xR H0 T N ρ0 w0 L ρ w y n/\∀u e,n=u::e->u.k.fF=X/\L u.i=U
 |[],T1,m=>⟨T1,[],m,λu e h=>by cases h⟩
 |u::T2,T1,m=>by
  by_cases j:u.k.fF=X/\L u.i=U
  ·exact⟨T1,u::T2,m,λE e h=>by simp only[List.cons.injEq]at h;rw[<-h.1];exact j⟩
  ·obtain⟨o,z,p,A⟩:=m;have s:=tt c.ay;rw[o]at s;have B:=(ff.append s).2;have m':=fK.turns (zC:=[u]) (zD:=T2) (L:=L) B (λv a d=>by
    have:v=u:=by simpa using a
    subst this;have l:L v.i=true:=by
     cases a:L v.i with
     |true=>rfl
     |false=>exact absurd ⟨d,a⟩ j
    refine⟨l,?_⟩;cases q:v.k with
    |new x b=>exact⟨x,b,rfl⟩
    |eL x H=>rw[p v (by simp) ⟨x,H,q⟩]at l;cases l
    |_=>rw[q]at d;cases d) A
   rw[<-lz]at m';refine c.norm (T2:=T2) (T1:=T1++[u]) ⟨by rw[o];simp,λv a d=> ?_,λv a=>p v (by simp[a]),m'⟩;rcases List.mem_append.1 a with a|a
   ·exact z v a d
   ·have:v=u:=by simpa using a
    subst this;cases a:L v.i with
    |true=>rfl
    |false=>exact absurd ⟨d,a⟩ j
def zX{L:Nat->Bool}{u:b1}{v:aa}{b:cb}(hu:u.k= .new v b)(e:L u.i=X):∀{zC zD:List b1} {H:af},ff H (zC++u::zD)->eO L (zC++u::zD) H (cI zC H).next=D b
 |[],zD,H,_=>by simp[eO,hu,e,cI]
 |c::zC,zD,H,hm=>by
  have a:=zX hu e (zC:=zC) (zD:=zD) hm.2;have hle:∀{zC:List b1} {H:af},ff H zC->H.next<=(cI zC H).next:=by
   intro zC
   induction zC with
   |nil=>intro H _;exact bo _
   |cons x zC n=>intro H h;exact Nat.le_trans h.1 (n h.2)
  by_cases l:∃v b,c.k= .new v b
  ·obtain⟨o,ct,j⟩:=l;have d:=hle (ff.append hm.2).1;have m:=hm.2;rw[j]at d m a;simp only[K.heap,af.ch]at d a;simp only[List.cons_append,eO,j,cI,K.heap];rw[if_neg ae];exact a
  ·rw[List.cons_append,uk λv b h=>l ⟨v,b,h⟩,cI];exact a
def yU{l:Nat}:∀{zC:List b1} {H:af},(∀x∈zC,oR x.k=X)->l<H.next->(cI zC H).get l=H.get l
 |[],H,_,_=>rfl
 |c::zC,H,a,i=>by
  have e:=a c (by simp);rw[cI];cases h:c.k with
  |new v b=>
   rw[yU (λx d=>a x (by simp[d])) (by simp only[K.heap,af.ch];omega)];exact af.dS ae
  |eL v H'=>rw[h]at e;cases e
  |_=>exact yU (λx d=>a x (by simp[d])) i
def Rel.PN{ρ:Env}{H:af}{w:World}{b:cb}(h:b≠ .dead->∃loc,ρ H.next=D loc/\ke ρ w loc b):Rel ρ (H.push b).only w where
 row l ro esz els a:=by
  obtain⟨rfl,rfl⟩:=af.uf a;obtain⟨loc,c,d⟩:=h (by intro e;cases e);exact⟨loc,c,d⟩
 map l es a:=by
  obtain⟨rfl,rfl⟩:=af.uf a;obtain⟨loc,c,d⟩:=h (by intro e;cases e);exact⟨loc,c,d⟩
 ck l t esz els a:=by
  obtain⟨rfl,rfl⟩:=af.uf a;obtain⟨loc,c,d⟩:=h (by intro e;cases e);exact⟨loc,c,d⟩
 apart l l' loc j c d i _ _:=by
  exfalso;have aT:∃x,(H.push b).only.get l=D x:=by
   unfold af.rw at c;cases a:(H.push b).only.get l with
   |none=>simp[a]at c
   |some x=>exact⟨x,rfl⟩
  have a2:∃x,(H.push b).only.get l'=D x:=by
   unfold af.live at d;cases a:(H.push b).only.get l' with
   |none=>simp[a]at d
   |some x=>exact⟨x,rfl⟩
  obtain⟨x,aT⟩:=aT;obtain⟨y,a2⟩:=a2;exact i ((af.uf aT).1.trans (af.uf a2).1.symm)
def Ctx.any(c:Ctx P call ops ord e_ H0 T cU b5)(bw:kN E P call)(bo:E.le ρ0)(bv:∀ρ a w,ey ρ cU a->Step ρ0 H0 w0 ρ b5 w->Q .normal a w):
  ∀(fuel:Nat) (listed:Array Bool) (a:Act) (w:World),Inv ops e_ H0 T b5.next ρ0 w0 listed a w->(List.range ops.size).countP (λj=> !dt listed j)<=fuel->wpAny P .any ops Q fuel listed a w:=by
 have a8:∀listed a w,Inv ops e_ H0 T b5.next ρ0 w0 listed a w->Region.ready .any ops listed=[]->Q .normal a w:=by
  intro listed a w s au;obtain⟨ρ,n,V⟩:=c.final s (c.LR s.size au);exact bv ρ a w n V
 intro fuel
 induction fuel with
 |zero=>
  intro listed a w s bx;have au:Region.ready .any ops listed=[]:=by
   rw[List.eq_nil_iff_forall_not_mem];intro i aW;obtain⟨o,n,V,aR,aS⟩:=Il aW s.size;have b0:0<(List.range ops.size).countP (λj=> !dt listed j):=List.countP_pos_iff.2 ⟨i,by simpa using aS,by simp[V]⟩;omega
  exact⟨au,a8 _ _ _ s au⟩
 |succ fuel aD=>
  intro listed a w s bx;refine⟨λau=>a8 _ _ _ s au,λi aW=> ?_⟩;obtain⟨o,ak,aa,hw,aY⟩:=Il aW s.size;have bh:=c.z7;simp only[sh,Bool.and_eq_true,List.all_eq_true,List.mem_range]at bh;have bg:=bh.1 i aY;rw[List.contains_iff_mem,<-(mb c.ay).1,List.mem_map]at bg;obtain⟨t,ab,rfl⟩:=bg;have bH:=c.mem ab;obtain rfl:t.o=o:=Option.some.inj (bH.symm.trans ak);obtain⟨ρ,T1,T2,aq,aH,bu,m,a3,aj,a2,aN⟩:=s.mid;have bi:t.i<listed.size:=by rw[s.size];exact aY
  have am:dt (listed.setIfInBounds t.i X) t.i=true:=by rw[vW bi];simp
  have S:∀j,j≠t.i->dt (listed.setIfInBounds t.i X) j=dt listed j:=λj ao=>by rw[vW bi];simp[ao]
  have aU:(List.range ops.size).countP (λj=> !dt (listed.setIfInBounds t.i X) j)<=fuel:=by
   have:=CY (p:=λj=> !dt listed j) (q:=λj=> !dt (listed.setIfInBounds t.i X) j) (i:=t.i) (l:=List.range ops.size) (by simpa using aY)
    (λj ao=>by
     by_cases e:j=t.i
     ·rw[e,am]at ao;cases ao
     ·simp only[S j e]at ao;exact ao) (by simp[aa]) (by simp[am])
   omega
  obtain⟨aO,aJ,G⟩:=List.append_of_mem ab;have bf:∀d∈t.o.looksAt ops,a3.get d=t.ad.get d:=λd bz=>by rw[aN d];exact c.looks G s.closed hw aa d bz
  have aM:=Mp bf;have bI:Region.wanted t.o (yielded ops a.tmps)=l8 ops t.ad t.o:=(B_ aj t.o).trans (Mq bf);unfold wpOp;rw[ak];simp only[bI];have still:t.k.fF=U->∀x,bq ρ t.k.val x->wpAny P .any ops Q fuel (listed.setIfInBounds t.i X) (a.put t.o.dst x) w:=by
   intro z x F;refine aD _ _ _ (c.next G s.size s.closed aa hw aj a2 aN F (T1:=T1) (T2:=T2) ⟨aq,λu hu ai=> ?_,λu hu al=> ?_,?_⟩) aU
   ·have:=aH u hu ai;by_cases e:u.i=t.i
    ·rw[e];exact am
    ·rw[S _ e];exact this
   ·have ar:u.i≠t.i:=λe=>by
     have:=c.uniq G (by rw[aq];simp[hu]) e;subst this;obtain⟨v,H,R⟩:=al;rw[R]at z;cases z
    rw[S _ ar];exact bu u hu al
   ·rw[ui (L':=dt listed) λu hu v b R=>S _ λe=>by
     have:=c.uniq G (by rw[aq];simp[hu]) e;subst this;rw[R]at z;cases z]
    exact m
  rcases rZ (c.at G).2.2.1 with⟨av,R⟩|⟨av,R⟩
  ·rw[av];simp only[if_true];refine .inl ?_;have a4:t.k.fF=X->∃zC zD,T2=zC++t::zD:=λz=>by
    rw[aq]at ab;rcases List.mem_append.1 ab with ab|ab
    ·have:=aH t ab z;rw[aa]at this;cases this
    ·exact List.append_of_mem ab
   have ap:=tt c.ay;cases y:t.k with
   |skip=>rw[y]at R;exact R.elim
   |pure v=>
    rw[y]at R;have W:=ng.congr (λx F=>(aM x F).symm) R;exact HX W aj λx F=>still (by rw[y];rfl) x (by rw[y];exact F)
   |read v=>
    obtain⟨aK,aQ,⟨f1,f2,f3,f4⟩,f5⟩:=c.norm (ρ0:=ρ0) (w0:=w0) (N:=b5.next) (L:=dt listed) (ρ:=ρ) (w:=w) (T2:=T2) (T1:=T1) ⟨aq,aH,bu,m⟩;have aL:∃aP,Rel ρ aP w/\iw P t.o.op t.ad aP=D v:=by
     rcases KS y c.Vm ab with bA|bF
     ·
       refine⟨_,f4.rel,?_⟩;have bc:iw P t.o.op t.ad (cI aO H0)=D v:=by
        rcases rZ (c.at G).2.2.1 with⟨_,ba⟩|⟨F,_⟩
        ·rw[y]at ba;exact ba
        ·rw[av]at F;cases F
       have a_:∀u∈T,u.k.fF=X->u.i≠t.i/\(dE (ee ops) u.i t.i=X\/dE (ee ops) t.i u.i=X):=λu hu z=>by
        have ar:u.i≠t.i:=λe=>by
         have:=c.uniq G hu e;subst this;rw[y]at z;cases z
        obtain⟨bW,bX,n⟩:=List.append_of_mem hu;refine⟨ar,US bA ?_ ar (c.at n).1 (FM (c.at n).2.2.1 z)⟩;rw[<-(mb c.ay).1,List.mem_map];exact⟨u,hu,rfl⟩
       have bD:∀u∈aO,u.k.fF=X->dt listed u.i=true:=λu hu z=>by
        rcases(a_ u (by rw[G];simp[hu]) z).2 with n|n
        ·exact l_ s.closed _ _ ak hw _ n
        ·have:=(c.before G hu).2.1;rw[n]at this;cases this
       have bB:∀u∈aJ,u.k.fF=X->dt listed u.i=false:=λu hu z=>by
        have bj:u∈T:=by rw[G];simp[hu]
        rcases(a_ u bj z).2 with n|n
        ·have:=(c.after G hu).2.1;rw[n]at this;cases this
        ·cases ah:dt listed u.i with
         |false=>rfl
         |true=>
          have aC:=c.mem bj;have:=l_ s.closed _ _ aC (s.closed _ _ aC ah) _ n;rw[aa]at this;cases this
       have a1:aK++aQ=aO++t::aJ:=by rw[<-f1,<-G]
       rcases List.append_eq_append_iff.1 a1 with⟨bt,ax,aT⟩|⟨c',an,ag⟩
       ·cases bt with
        |nil=>rw[List.append_nil]at ax;rw[<-ax];exact bc
        |cons u bn=>
         obtain⟨g1,g2⟩:=f5 u (bn++t::aJ) aT;have:=bD u (by rw[ax];simp) g1;rw[g2]at this;cases this
       ·have bG:∀(aI:List b1) (H:af),(∀u∈aI,u.k.fF=U)->cI aI H=H:=by
         intro aI
         induction aI with
         |nil=>intro H _;rfl
         |cons u aI aD=>intro H a5;rw[cI,vC (a5 u (by simp))];exact aD H λu hu=>a5 u (by simp[hu])
        rw[an,lz,bG c' _ ?_]
        ·exact bc
        ·intro u hu;cases z:u.k.fF with
         |false=>rfl
         |true=>
          have n:=f2 u (by rw[an];simp[hu]) z;have V:u∈t::aJ:=by rw[ag];simp[hu]
          rcases List.mem_cons.1 V with rfl|V
          ·rw[y]at z;cases z
          ·have:=bB u V z;rw[n]at this;cases this
     ·rcases T8 bF with bk|bE
      rotate_left
      ·obtain⟨A,u,B,bT,b,g1,g2,g3,g4,g5⟩:=G5 bE;refine⟨_,Rel.PN λaz=> ?_,Ij g5⟩;have ah:=l_ s.closed _ _ ak hw _ g3;have a1:aK++aQ=A++u::B:=by rw[<-f1,<-g1]
       rcases List.append_eq_append_iff.1 a1 with⟨bt,ax,aT⟩|⟨c',an,ag⟩
       ·have aF:=f4.kH (cI A H0).next b (by
         rw[f1]at ap;have M:=(ff.append ap).2;rw[aT]at M ⊢;rw[ax,lz];exact zX g2 ah M)
        obtain⟨_,_,_,loc,aE,aw,_⟩:=aF;exact⟨loc,aE,aw⟩
       ·cases c' with
        |nil=>
         have aF:=f4.kH (cI A H0).next b (by
          rw[f1]at ap;have M:=(ff.append ap).2;rw[List.nil_append]at ag;rw[List.append_nil]at an;rw[<-ag]at M ⊢;rw[an]at M ⊢;exact zX (zC:=[]) g2 ah M)
         obtain⟨_,_,_,loc,aE,aw,_⟩:=aF;exact⟨loc,aE,aw⟩
        |cons x bZ=>
         simp only[List.cons_append,List.cons.injEq]at ag;obtain⟨rfl,ag⟩:=ag;have aV:(cI aK H0).get (cI A H0).next=D b:=by
          rw[an,lz,cI,g2];rw[yU (λx F=>g4 x (by rw[ag];simp[F])) (by simp[K.heap])];exact af.bY _ b
         cases b with
         |row ro esz els=>exact f4.rel.row _ _ _ _ aV
         |map es=>exact f4.rel.map _ _ aV
         |ck t esz els=>exact f4.rel.ck _ _ _ _ aV
         |dead=>exact absurd rfl az
      refine⟨_,f4.rel,?_⟩;rw[show lg (ee ops) (qx P t.o.op t.ad v) t.i T H0=lg (ee ops) (qx P t.o.op t.ad v) t.i (aK++aQ) H0 by rw[<-f1]]at bk;exact Ij (Bf bk (λu hu ai=>by
       cases az:dE (ee ops) t.i u.i with
       |false=>rfl
       |true=>
        have aC:=c.mem (t:=u) (by rw[f1];simp[hu]);have:=l_ s.closed _ _ aC (s.closed _ _ aC (f2 u hu ai)) _ az;rw[aa]at this;cases this) (λu bm hu=>by
       obtain⟨g1,g2⟩:=f5 u bm hu;refine⟨g1,?_⟩;cases az:dE (ee ops) u.i t.i with
       |false=>rfl
       |true=>
        have:=l_ s.closed _ _ ak hw _ az;rw[g2]at this;cases this))
    obtain⟨aP,bJ,aL⟩:=aL;rw[<-B0 aM]at aL;exact Ik bJ aL aj λx F=>still (by rw[y];rfl) x (by rw[y];exact F)
   |new v b=>
    obtain⟨zC,zD,O⟩:=a4 (by rw[y];rfl);have n:T=(T1++zC)++t::zD:=by rw[aq,O];simp
    have aX:=(c.at n).2.2.1;rcases rZ aX with⟨_,aB⟩|⟨F,_⟩
    ·rw[y]at aB;have W:=ng.congr (λx F=>(aM x F).symm) aB;have M:ff (cI T1 H0) (zC++t::zD):=by
      have:=ap;rw[aq,O]at this;exact(ff.append this).2
     obtain⟨aE,aw⟩:=HK (L:=dt listed) (L':=dt (listed.setIfInBounds t.i X)) y aa am M
      (λu hu=>(S _ (c.before n (by simp[hu])).1).symm) (λu hu=>(S _ (Ne.symm (c.after n hu).1)).symm)
     have a9:(cI T1 H0).next<=(cI zC (cI T1 H0)).next:=(ff.append M).1.le
     have be:(cI zC (cI T1 H0)).next<b5.next:=by
      have V:=(ff.append M).2;have aR:=V.2.le;rw[y]at aR;have aS:b5=cI zD (K.heap (cI zC (cI T1 H0)) (.new v b)):=by
       rw[(mb c.ay).2.1,n,lz,lz,cI,y]
      rw[aS];simp only[K.heap,af.ch]at aR ⊢;omega
     rw[O]at m;have bC:kQ P t.o.op a3 (cI zC (cI T1 H0)).next=D (v,b):=by rw[<-lz];exact W
     refine G6 bC aj (m.fresh _ a9 be aw) λx bU bV loc bb bl bN bO bP bQ iF bR bS bK bL bM=> ?_
     have m':=m.early a9 be aw bl bN bO bP bQ iF bR bS bK bL bM;rw[<-aE]at m';refine aD _ _ _ (c.next G s.size s.closed aa hw (aj.mono bl) a2 aN (by rw[y];exact bb) (T1:=T1) (T2:=zC++t::zD) ⟨by rw[aq,O],λu hu ai=> ?_,λu hu al=> ?_,m'⟩) aU
     ·have:=aH u hu ai;by_cases e:u.i=t.i
      ·rw[e];exact am
      ·rw[S _ e];exact this
     ·have ar:u.i≠t.i:=λe=>by
       have:=c.uniq G (by rw[aq,O];simp at hu ⊢;exact .inr hu) e;subst this;obtain⟨bT,H,W⟩:=al;rw[y]at W;cases W
      rw[S _ ar];exact bu u (by rw[O];exact hu) al
    ·rw[av]at F;cases F
   |eL v H'=>
    obtain⟨zC,zD,O⟩:=a4 (by rw[y];rfl);have n:T=(T1++zC)++t::zD:=by rw[aq,O];simp
    have aX:=(c.at n).2.2.1;rcases rZ aX with⟨_,aB⟩|⟨F,_⟩
    ·rw[y]at aB;have W:=ng.congr (λx F=>(aM x F).symm) aB;have M:ff (cI T1 H0) (zC++t::zD):=by
      have:=ap;rw[aq,O]at this;exact(ff.append this).2
     have a7:=c.eL;rw[n]at a7;have a6:=(vq a7 y).2;rw[O]at m;have m1:=fK.turns (zC:=zC) (zD:=t::zD) (L:=dt listed) M (λu hu z=>by
      have ah:=l_ s.closed _ _ ak hw _ (a6 u (by simp[hu]) z);refine⟨ah,?_⟩;cases bd:u.k with
      |new x b=>exact⟨x,b,rfl⟩
      |eL x H=>rw[bu u (by rw[O];simp[hu]) ⟨x,H,bd⟩]at ah;cases ah
      |_=>rw[bd]at z;cases z) m
     rw[uk (λv b h=>by rw[y]at h;cases h),y]at m1;simp only[K.heap]at m1;have aZ:ff H' zD:=by have:=(ff.append M).2.2;rw[y]at this;exact this
     have br:b5=cI zD H':=by rw[(mb c.ay).2.1,n,lz,cI,y];rfl
     have bs:H'.next<=b5.next:=by rw[br];exact aZ.le
     rw[lz]at W;refine C4 (H:=cI zC (cI T1 H0)) (H':=H') bw m1.rel ⟨λl g1 g2=>m1.fresh l g1 ae ?_,Env.le_trans bo m1.le⟩ W aj λx bU bV g1 g2=> ?_
     ·cases a0:eO (dt listed) zD H' l with
      |none=>rfl
      |some b=>have:=uj aZ a0;omega
     ·have m2:=m1.step g2 bs (λl b a0=>uj aZ a0);refine aD _ _ _ (c.next G s.size s.closed aa hw (aj.mono g2.le) a2 aN (by rw[y];exact g1) (T1:=T1++zC++[t]) (T2:=zD) ⟨by rw[n];simp,λu hu ai=> ?_,λu hu al=> ?_,?_⟩) aU
      ·by_cases e:u.i=t.i
       ·rw[e];exact am
       ·rw[S _ e];simp only[List.mem_append,List.mem_singleton]at hu;rcases hu with(hu|hu)|rfl
        ·exact aH u hu ai
        ·exact l_ s.closed _ _ ak hw _ (a6 u (by simp[hu]) ai)
        ·exact absurd rfl e
      ·rw[S _ (Ne.symm (c.after n hu).1)];exact bu u (by rw[O];simp[hu]) al
      ·have bp:cI (T1++zC++[t]) H0=H':=by rw[lz,cI,y];rfl
       rw[bp,ui (L':=dt listed) λu hu v b R=>S _ (Ne.symm (c.after n hu).1)];exact m2
    ·rw[av]at F;cases F
  ·rw[av];simp only[Bool.false_eq_true,if_false];exact still (by rw[R];rfl) undef (by rw[R];exact .tuple [] [] .nil)
def Vq{id:Nat}{a:Act}{w:World}(hm:P.follows .mixedOrders=X)(v:kN E P call)(c:Ctx P call ops ord e_ H0 T cU b5)(u:Rel ρ0 H0 w)(n:jz E ρ0 H0.next b5.next)(y:ey ρ0 e_ a)
  (s:∀ρ a m,ey ρ cU a->Step ρ0 H0 w ρ b5 m->Q .normal a m):(Code.region id ops X).wp P Q a w:=by
 have k:∀j,dt (Array.replicate ops.size U) j=false:=λj=>by
  unfold dt;rw[Array.getD_eq_getD_getElem?];by_cases h:j<ops.size<;>simp[h]
 refine wp_region_any hm (c.any (ρ0:=ρ0) (w0:=w.drew) v n.le (λρ a m q e=>s ρ a m q ?_) _ _ _ _ ⟨by simp,λi o _ x=>absurd x (by rw[k];simp),ρ0,[],T,rfl,by simp,λt _ _=>k _,?_,e_,y,rfl,λd=> ?_⟩ ?_)
 ·exact⟨e.le,e.next,e.a1,e.rel,e.os,e.tape,e.output,e.size,e.frame,e.own,e.ro⟩
 ·have aF:eO (dt (Array.replicate ops.size U)) T (cI [] H0)=λ_=>none:=by
   have:∀(T:List b1) (H:af),eO (dt (Array.replicate ops.size U)) T H=λ_=>none:=by
    intro T
    induction T with
    |nil=>intro H;rfl
    |cons t T p=>
     intro H
     funext l
     unfold eO;split
     ·rw[p,k];simp
     ·rw[p]
   exact this T _
  rw[aF];exact fK.start u.drew n.new
 ·rw[wE λt _ _=>k _]
 ·refine Nat.le_trans List.countP_le_length ?_;simp
end
def ja(P:Program)(call:aD)(ops:Array Oper):List Oper->bl->af->Option (bl×af)
 |[],ad,H=>D (ad,H)
 |o::os,ad,H=>match iU P call ops o ad H with
  |none=>C
  |some k=>match ad.put o.dst k.val with
   |none=>C
   |some bj=>ja P call ops os bj (k.heap H)
def Lw(o:Oper):Bool:=match cls o.op with
 | .write=>X
 | .call=>X
 |_=>U
def need(m:Nat)(done:Nat):List Nat->List Nat
 |[]=>[]
 |j::a=>if m.testBit j&& !done.testBit j then j::need m done a else need m done a
def I0(done:Nat):List Nat->Nat
 |[]=>done
 |j::a=>I0 (done|||2^j) a
def zP(ms all:List Nat):List (Nat×Oper)->Nat->List Nat
 |[],done=>need (2^all.length-1) done all
 |(i,o)::is,done=>if Lw o&& !done.testBit i then
   (let a:=need (ms[i]?.getD 0) done all
    a++i::zP ms all is (I0 done a|||2^i))
  else zP ms all is done
def K5:Nat->List Oper->List (Nat×Oper)
 |_,[]=>[]
 |i,o::os=>(i,o)::K5 (i+1) os
def order(ops:Array Oper):List Nat:=zP (ee ops) (List.range ops.size) (K5 0 ops.toList) 0
def gq(P:Program)(call:aD)(ops:Array Oper)(draw:Bool)(ad:bl)(H:af):Option (bl×af):=
 match draw with
 |false=>ja P call ops ops.toList ad H
 |true=>match canRun P call ops (order ops) ad H with
  |none=>C
  |some (T,bj,H')=>match kq (ee ops) T []with
   |false=>C
   |true=>match nc P (ee ops) (tied ops (ee ops) (order ops)) T H T with
    |false=>C
    |true=>D (bj,H')
def lG:Code->Bool
 | .region _ ops X=>sh ops (ee ops) (order ops)
 | .seq a b=>lG a&&lG b
 | .cond _ a b=>lG a&&lG b
 | .block _ b=>lG b
 | .loop b=>lG b
 |_=>X
inductive aE where
 |normal
 |exit (id:Nat)
 |ret
def aE.yB:aE->Exit
 | .normal=> .normal
 | .exit id=> .exit id
 | .ret=> .ret
abbrev u9:=Array Oper->Bool->bl->af->Option (bl×af)
def iter(f:bl->af->Option (aE×bl×af)):Nat->bl->af->Option (aE×bl×af)
 |0,_,_=>C
 |n+1,ad,H=>match f ad H with
  |some (.normal,bj,H')=>iter f n bj H'
  |r=>r
def cW(iX:u9)(N:Nat):Code->bl->af->Option (aE×bl×af)
 | .skip,ad,H=>D (.normal,ad,H)
 | .region _ ops d,ad,H=>match iX ops d ad H with
  |some (bj,H')=>D (.normal,bj,H')
  |none=>C
 | .seq a b,ad,H=>match cW iX N a ad H with
  |some (.normal,bj,H')=>cW iX N b bj H'
  |r=>r
 | .cond c a b,ad,H=>match cu ad c with
  |some (.bool X)=>cW iX N a ad H
  |some (.bool U)=>cW iX N b ad H
  |_=>C
 | .block id b,ad,H=>match cW iX N b ad H with
  |some (.exit e,bj,H')=>if e=id then D (.normal,bj,H')else D (.exit e,bj,H')
  |r=>r
 | .loop b,ad,H=>iter (λad H=>cW iX N b ad H) N ad H
 | .exit id,ad,H=>D (.exit id,ad,H)
 | .ret,ad,H=>D (.ret,ad,H)
 | .label _,ad,H=>D (.normal,ad,H)
 |_,_,_=>C
def bl.ub(t:bF aa):Nat->List aa->bF aa
 |_,[]=>t
 |i,v::a=>bl.ub (bF.put v (i+1) t i) (i+1) a
def bl.enter(n:Nat)(args:List aa):bl:=⟨bl.ub .leaf 0 args,args.length+(n-args.length)⟩
def rC(P:Program)(ad:bl)(H:af):ResultVar->Option aa
 | .tmp t=>D (ad.get t)
 | .cell a t=>ao P H t (ad.get a)
def iQ(P:Program)(ad:bl)(H:af):List ResultVar->Option (List aa)
 |[]=>D []
 |r::rs=>match rC P ad H r,iQ P ad H rs with
  |some v,D a=>D (v::a)
  |_,_=>C
def oB:List aa->aa
 |[v]=>v
 |a=> .tuple a
def cg(P:Program)(aB:aD)(N:Nat):Nat->aD
 |0,_,_,_=>C
 |n+1,f,args,H=>match aB f args H with
 |some r=>D r
 |none=>match P.funcs[f]? with
  |none=>C
  |some fn=>match fn.body with
   |none=>C
   |some c=>match cW (gq P (cg P aB N n)) N c (bl.enter fn.ntmps args) H with
    |none=>C
    |some (ex,ad,H')=>match ex with
     | .exit _=>C
     |_=>match iQ P ad H' fn.results.toList with
      |none=>C
      |some a=>D (oB a,H')
section
variable {E:Env}{P:Program}{aB:aD}{call:aD}{iX:u9}{N:Nat}
def Az{ops:Array Oper}:∀{os:List Oper} {ad bj:bl} {H H':af},ja P call ops os ad H=D (bj,H')->H.next<=H'.next
 |[],ad,bj,H,H',h=>by
  simp only[ja,aZ,cj]at h;obtain⟨rfl,rfl⟩:=h;exact bo _
 |o::os,ad,bj,H,H',h=>by
  simp only[ja]at h;split at h
  ·cases h
  ·rename_i k a;split at h
   ·cases h
   ·exact Nat.le_trans (y7 a) (Az h)
def xW(iX:u9):Prop:=∀ops d ad H bj H',iX ops d ad H=D (bj,H')->H.next<=H'.next
def Im:xW (gq P call):=by
 intro ops d ad H bj H' h;unfold gq at h;split at h
 ·exact Az h
 ·split at h
  ·cases h
  ·rename_i T c H1 a;split at h
   ·cases h
   ·split at h
    ·cases h
    ·simp only[aZ,cj]at h;obtain⟨rfl,rfl⟩:=h;rw[(mb a).2.1];exact(tt a).le
def vH{f:bl->af->Option (aE×bl×af)}(a:∀ad H ex bj H',f ad H=D (ex,bj,H')->H.next<=H'.next):∀{n:Nat} {ad:bl} {H:af} {ex:aE} {bj:bl} {H':af},
  iter f n ad H=D (ex,bj,H')->H.next<=H'.next
 |0,_,_,_,_,_,h=>by cases h
 |n+1,ad,H,ex,bj,H',h=>by
  simp only[iter]at h;split at h
  ·rename_i d H1 c;exact Nat.le_trans (a _ _ _ _ _ c) (vH a h)
  ·exact a _ _ _ _ _ h
def C_(n:xW iX):∀(c:Code) {ad:bl} {H:af} {ex:aE} {bj:bl} {H':af},cW iX N c ad H=D (ex,bj,H')->H.next<=H'.next:=by
 intro c
 induction c with
 |skip=>intro ad H ex bj H' h;simp only[cW,aZ,cj]at h;obtain⟨_,_,rfl⟩:=h;exact bo _
 |region id ops d=>
  intro ad H ex bj H' h;simp only[cW]at h;split at h
  ·rename_i m H1 e;simp only[aZ,cj]at h;obtain⟨_,_,rfl⟩:=h;exact n _ _ _ _ _ _ e
  ·cases h
 |seq a b j k=>
  intro ad H ex bj H' h;simp only[cW]at h;split at h
  ·rename_i m H1 e;exact Nat.le_trans (j e) (k h)
  ·exact j h
 |cond c a b j k=>
  intro ad H ex bj H' h;simp only[cW]at h;split at h
  ·exact j h
  ·exact k h
  ·cases h
 |block id b i=>
  intro ad H ex bj H' h;simp only[cW]at h;split at h
  ·rename_i o m H1 e;have:=i e;split at h<;>(simp only[aZ,cj]at h;obtain⟨_,_,rfl⟩:=h;exact this)
  ·exact i h
 |loop b i=>
  intro ad H ex bj H' h;simp only[cW]at h;exact vH (λ_ _ _ _ _ h=>i h) h
 |exit id=>intro ad H ex bj H' h;simp only[cW,aZ,cj]at h;obtain⟨_,_,rfl⟩:=h;exact bo _
 |ret=>intro ad H ex bj H' h;simp only[cW,aZ,cj]at h;obtain⟨_,_,rfl⟩:=h;exact bo _
 |label l=>intro ad H ex bj H' h;simp only[cW,aZ,cj]at h;obtain⟨_,_,rfl⟩:=h;exact bo _
 |goto l=>intro ad H ex bj H' h;cases h
 |scope b i=>intro ad H ex bj H' h;cases h
 |rangeFunc f p a b j k=>intro ad H ex bj H' h;cases h
 |refuse y=>intro ad H ex bj H' h;cases h
def IZ(u:kN E P call){ops:Array Oper}{Q:Exit->Act->World->Prop}:∀{os:List Oper} {ad bj:bl} {H H':af} {ρ:Env} {w:World} {a:Act},ja P call ops os ad H=D (bj,H')->
  Rel ρ H w->jz E ρ H.next H'.next->ey ρ ad a->(∀d bt c,ey d bj bt->Step ρ H w d H' c->Q .normal bt c)->wpList P ops Q os a w
 |[],ad,bj,H,H',ρ,w,a,h,e,_,i,q=>by
  simp only[ja,aZ,cj]at h;obtain⟨rfl,rfl⟩:=h;exact q ρ a w i (.refl e)
 |o::os,ad,bj,H,H',ρ,w,a,h,e,s,i,q=>by
  simp only[ja]at h;split at h
  ·cases h
  ·rename_i k z;split at h
   ·cases h
   ·rename_i ag B;have A:=Az h;have ah:=y7 z;have go:∀x c d,bq d k.val x->Step ρ H w d (k.heap H) c->wpList P ops Q os (a.put o.dst x) c:=λx c d m ar=>
     IZ u h ar.rel (s.after ar) ((i.mono ar.le).put B m) λaa a2 W n p=>q aa a2 W n (ar.trans p)
    unfold wpList;rw[B_ i o];rcases rZ z with⟨hw,j⟩|⟨hw,rfl⟩
    ·rw[hw];simp only[if_true];refine .inl ?_;cases k with
     |skip=>exact j.elim
     |pure v=>exact HX j i λx m=>go x w ρ m (.refl e)
     |read v=>exact Ik e j i λx m=>go x w ρ m (.refl e)
     |new v b=>
      have y:ρ H.next=none:=s.new _ (bo _) (by simp only[K.heap,af.ch]at A;omega)
      refine G6 j i y λx c d loc bb M N O R S iF T V F G L=>go x c d bb ?_
      have m0:fK ρ H w (H.next+1) (λ_=>C) ρ H w:=fK.start e λl n p=>by
       have:l=H.next:=ae
       rw[this];exact y
      have m1:=m0.early (bo _) ae rfl M N O R S iF T V F G L;exact(m1.Kx (b:=b) (by simp)).done rfl
     |eL v ab=>
      exact C4 u e (s.left A) j i λx c d n p=>go x c d n p
    ·rw[hw];simp only[Bool.false_eq_true,if_false];exact go undef w ρ (.tuple [] [] .nil) (.refl e)
def Bz(E:Env)(P:Program)(iX:u9):Prop:=∀(id:Nat) (ops:Array Oper) (d:Bool) (ad:bl) (H:af) (bj:bl) (H':af),iX ops d ad H=D (bj,H')->(d=X->sh ops (ee ops) (order ops)=X)->∀(ρ:Env) (w:World) (a:Act) (Q:Exit->Act->World->Prop),Rel ρ H w->jz E ρ H.next H'.next->ey ρ ad a->(∀e bt c,ey e bj bt->Step ρ H w e H' c->Q .normal bt c)->(Code.region id ops d).wp P Q a w
def Io(hm:P.follows .mixedOrders=X)(i:kN E P call):Bz E P (gq P call):=by
 intro id ops d ad H bj H' h m ρ w a Q e j k c;unfold gq at h;split at h
 ·exact wp_region_list (IZ i h e j k c)
 ·split at h
  ·cases h
  ·rename_i T p H1 l;split at h
   ·cases h
   ·rename_i n;split at h
    ·cases h
    ·rename_i o;simp only[aZ,cj]at h;obtain⟨rfl,rfl⟩:=h;exact Vq hm i ⟨l,m rfl,n,o⟩ e j k c
def Vr{c:Code}{Q:Exit->Act->World->Prop}(p:Nat->Act->World->Prop)(round:∀n a w,p n a w->∃m,n=m+1/\c.wp P (Exit.then (p m) Q) a w){n:Nat}{a:Act}{w:World}(z:p n a w):(Code.loop c).wp P Q a w:=by
 intro b k cs;have key:∀n a w,p n a w->∃e bt q,Q e bt q/\Arrives P (lone (b.at a (.code c:: .inLoop c::k)) cs w) b k cs e bt q:=by
  intro n
  induction n with
  |zero=>intro a w h;obtain⟨m,hm,_⟩:=round 0 a w h;omega
  |succ n A=>
   intro a w h;obtain⟨m,hm,hw⟩:=round _ a w h;obtain rfl:m=n:=ae;obtain⟨e,j,o,i,d⟩:=hw b (.inLoop c::k) cs;cases e with
   |normal=>
    obtain⟨u,s,B,y,v⟩:=A j o i;exact⟨u,s,B,y,.of_steps (Steps.trans d (.one step_inLoop)) v⟩
   |exit id=>exact⟨_,j,o,i,.pass (x:= .inLoop c) rfl (λ_ _=> .inl (by simp)) d⟩
   |goto l=>exact⟨_,j,o,i,.pass (x:= .inLoop c) rfl (λ_ _=> .inl (by simp)) d⟩
   |ret=>exact⟨_,j,o,i,.pass (x:= .inLoop c) rfl (λ_ _=> .inl (by simp)) d⟩
   |panic E=>exact⟨_,j,o,i,.pass (x:= .inLoop c) rfl (λ_ _=> .inl (by simp)) d⟩
   |outgrown=>exact⟨_,j,o,i,.pass (x:= .inLoop c) rfl (λ_ _=> .inl (by simp)) d⟩
 obtain⟨e,bt,q,i,d⟩:=key _ a w z;exact⟨e,bt,q,i,.of_steps (.one step_loop) d⟩
def xL(E:Env)(P:Program)(c:Code)(f:bl->af->Option (aE×bl×af)):Prop:=∀(ad:bl) (H:af) (ex:aE) (bj:bl) (H':af),f ad H=D (ex,bj,H')->∀(ρ:Env) (w:World) (a:Act) (Q:Exit->Act->World->Prop),Rel ρ H w->jz E ρ H.next H'.next->ey ρ ad a->(∀e bt d,ey e bj bt->Step ρ H w e H' d->Q ex.yB bt d)->c.wp P Q a w
def OK{c:Code}{f:bl->af->Option (aE×bl×af)}(l:xL E P c f)(o:∀ad H ex bj H',f ad H=D (ex,bj,H')->H.next<=H'.next)(n:Nat):xL E P (.loop c) (iter f n):=by
 intro ad H ex bj H' h ρ w a Q y m B x;refine Vr (n:=n) (λn aT i=>∃j H1 e,iter f n j H1=D (ex,bj,H')/\Step ρ H w e H1 i/\ey e j aT) ?_ ⟨ad,H,ρ,h,.refl y,B⟩;rintro n aT i ⟨j,H1,e,d,ar,p⟩;cases n with
 |zero=>cases d
 |succ n=>
  refine⟨n,rfl,?_⟩;have hle:=vH o d;simp only[iter]at d;split at d
  ·rename_i u s v;have z:=vH o d;refine l _ _ _ _ _ v e i aT _ ar.rel (jz.left (jz.after m ar) z) p λk a2 q g1 g2=> ?_
   exact⟨u,s,k,d,ar.trans g2,g1⟩
  ·rename_i A;refine l _ _ _ _ _ d e i aT _ ar.rel (jz.after m ar) p λk a2 q g1 g2=> ?_
   have:=x k a2 q g1 (ar.trans g2);cases ex with
   |normal=>exact absurd d (A _ _)
   |exit id=>exact this
   |ret=>exact this
def Db(B:xW iX)(G:Bz E P iX):∀(c:Code),lG c=X->xL E P c (cW iX N c):=by
 intro c
 induction c with
 |skip=>
  intro _ ad H ex bj H' h ρ w a Q j k e i;simp only[cW,aZ,cj]at h;obtain⟨rfl,rfl,rfl⟩:=h;exact wp_skip (i ρ a w e (.refl j))
 |region id ops d=>
  intro aF ad H ex bj H' h ρ w a Q j k e i;simp only[cW]at h;split at h
  ·rename_i A H1 m;simp only[aZ,cj]at h;obtain⟨rfl,rfl,rfl⟩:=h;exact G id ops d ad H _ _ m (λF=>by subst F;exact aF) ρ w a Q j k e i
  ·cases h
 |seq x y q s=>
  intro aF ad H ex bj H' h ρ w a Q j k e i;simp only[lG,Bool.and_eq_true]at aF;simp only[cW]at h;refine wp_seq ?_;split at h
  ·rename_i A H1 m;have hle:=C_ B y h;refine q aF.1 _ _ _ _ _ m ρ w a _ j (k.left hle) e λo aT n g1 g2=> ?_
   exact s aF.2 _ _ _ _ _ h o n aT Q g2.rel (k.after g2) g1 λM a2 L g3 g4=>i M a2 L g3 (g2.trans g4)
  ·rename_i v;refine q aF.1 _ _ _ _ _ h ρ w a _ j k e λo aT n g1 g2=> ?_
   have:=i o aT n g1 g2;cases ex with
   |normal=>exact absurd h (v _ _)
   |exit id=>exact this
   |ret=>exact this
 |cond c x y q s=>
  intro aF ad H ex bj H' h ρ w a Q j k e i;simp only[lG,Bool.and_eq_true]at aF;simp only[cW]at h;split at h
  ·rename_i u;have m:=dJ e u;refine wp_cond_true (by generalize a.eval c=z at m;cases m;rfl) ?_;exact q aF.1 _ _ _ _ _ h ρ w a Q j k e i
  ·rename_i u;have m:=dJ e u;refine wp_cond_false (by generalize a.eval c=z at m;cases m;rfl) ?_;exact s aF.2 _ _ _ _ _ h ρ w a Q j k e i
  ·cases h
 |block id b p=>
  intro aF ad H ex bj H' h ρ w a Q j k e i;simp only[cW]at h;refine wp_block ?_;split at h
  ·rename_i K A H1 m;split at h
   ·rename_i hid;simp only[aZ,cj]at h;obtain⟨rfl,rfl,rfl⟩:=h;refine p aF _ _ _ _ _ m ρ w a _ j k e λo aT n g1 g2=> ?_
    have:=i o aT n g1 g2;simp only[aE.yB,Exit.inBlock,hid,if_true];exact this
   ·rename_i hid;simp only[aZ,cj]at h;obtain⟨rfl,rfl,rfl⟩:=h;refine p aF _ _ _ _ _ m ρ w a _ j k e λo aT n g1 g2=> ?_
    have:=i o aT n g1 g2;simp only[aE.yB,Exit.inBlock,hid,if_false];exact this
  ·rename_i v;refine p aF _ _ _ _ _ h ρ w a _ j k e λo aT n g1 g2=> ?_
   have:=i o aT n g1 g2;cases ex with
   |normal=>exact this
   |exit K=>exact absurd h (v _ _ _)
   |ret=>exact this
 |loop b p=>
  intro aF ad H ex bj H' h ρ w a Q j k e i;simp only[cW]at h;exact OK (p aF) (λ_ _ _ _ _ h=>C_ B b h) N ad H ex bj H' h ρ w a Q j k e i
 |exit id=>
  intro _ ad H ex bj H' h ρ w a Q j k e i;simp only[cW,aZ,cj]at h;obtain⟨rfl,rfl,rfl⟩:=h;exact wp_exit (i ρ a w e (.refl j))
 |ret=>
  intro _ ad H ex bj H' h ρ w a Q j k e i;simp only[cW,aZ,cj]at h;obtain⟨rfl,rfl,rfl⟩:=h;exact wp_ret (i ρ a w e (.refl j))
 |label l=>
  intro _ ad H ex bj H' h ρ w a Q j k e i;simp only[cW,aZ,cj]at h;obtain⟨rfl,rfl,rfl⟩:=h;exact wp_label (i ρ a w e (.refl j))
 |goto l=>intro _ ad H ex bj H' h;cases h
 |scope b p=>intro _ ad H ex bj H' h;cases h
 |rangeFunc f O a b q s=>intro _ ad H ex bj H' h;cases h
 |refuse y=>intro _ ad H ex bj H' h;cases h
def zI:∀(args:List aa) (t:bF aa) (i d:Nat),(bl.ub t i args).get d=if i<=d/\d<i+args.length then args[d-i]? else t.get d
 |[],t,i,d=>by simp only[bl.ub,List.length_nil];rw[if_neg ae]
 |v::e,t,i,d=>by
  simp only[bl.ub];rw[zI e];by_cases a:i+1<=d/\d<i+1+e.length
  ·rw[if_pos a,if_pos (by simp;omega),show d-i=(d-(i+1))+1 by omega];simp
  ·rw[if_neg a];by_cases c:d=i
   ·subst c;rw[bF.tK _ _ _ _ ae,if_pos (by simp)];simp
   ·rw[bF.tJ _ _ _ _ _ (Ne.symm c),if_neg (by simp;omega)]
def C5{ρ:Env}{args:List aa}{xs:List Value}(h:bL ρ args xs)(n:Nat):ey ρ (bl.enter n args) {tmps:=xs.toArray++Array.replicate (n-xs.toArray.size) undef,defers:=[]}:=by
 have i:=h.length;refine⟨by simp[bl.enter,i],λd=> ?_,rfl⟩;unfold bl.get bl.enter;simp only
 rw[zI];rw[Array.getD_eq_getD_getElem?];by_cases e:d<args.length
 ·rw[if_pos ae];obtain⟨v,c⟩:∃v,args[d]? =D v:=⟨args[d],by simp[e]⟩;obtain⟨x,k,j⟩:=h.get d v c;have a:(xs.toArray++Array.replicate (n-xs.toArray.size) undef)[d]? =D x:=by
   rw[Array.getElem?_append_left (by simp;omega)];simpa using k
  rw[a];simp only[Nat.sub_zero,c,Option.getD_some];exact j
 ·rw[if_neg ae];have a:((xs.toArray++Array.replicate (n-xs.toArray.size) undef)[d]?).getD undef=undef:=by
   rw[Array.getElem?_append_right (by simp;omega)];simp only[Array.getElem?_replicate];split<;>rfl
  rw[a,bF.tG];exact .tuple [] [] .nil
def uA(tmps:Array Value):ResultVar->Sem Value
 | .tmp t=>pure (tmps.getD t undef)
 | .cell b t=>do loadVar t (<-asAddr (tmps.getD b undef))
def Mi{ρ:Env}{H:af}{w:World}{ad:bl}{a:Act}(j:Rel ρ H w)(e:ey ρ ad a){r:ResultVar}{v:aa}(h:rC P ad H r=D v):
  ∃x,(uA a.tmps r).run P w= .ok x w/\bq ρ v x:=by
 cases r with
 |tmp t=>
  simp only[rC,aZ]at h;subst h;exact⟨_,rfl,e.get t⟩
 |cell b t=>
  simp only[rC]at h;obtain⟨x,aq,aH⟩:=x9 j h (e.get b);refine⟨x,?_,aH⟩;have d:=e.get b;simp only[uA];generalize a.tmps.getD b undef=z at d aq ⊢;have aF:∃l i c,ad.get b= .ptr l i c:=by
   generalize ad.get b=u at h;unfold ao at h;cases u<;>first|exact⟨_,_,_,rfl⟩|(exfalso;simp at h)
  obtain⟨l,i,c,aF⟩:=aF;rw[aF]at d;cases d;simpa [Instr.loadAt,Instr.sureAddr,asAddr]using aq
def B1{ρ:Env}{H:af}{w:World}{ad:bl}{a:Act}(d:Rel ρ H w)(e:ey ρ ad a):∀{rs:List ResultVar} {c:List aa},iQ P ad H rs=D c->
  ∃xs:List Value,(rs.mapM (uA a.tmps)).run P w= .ok xs w/\bL ρ c xs
 |[],c,h=>by simp only[iQ,aZ]at h;subst h;exact⟨[],by simp[Sem.run_pure],.nil⟩
 |r::rs,c,h=>by
  simp only[iQ]at h;split at h
  ·rename_i v k i j;simp only[aZ]at h;subst h;obtain⟨x,aq,aH⟩:=Mi d e i;obtain⟨xs,bu,cq⟩:=B1 d e j;refine⟨x::xs,?_,.cons _ _ _ _ aH cq⟩;rw[List.mapM_cons];simp only[Sem.run_bind,Result.andThen_ok,Sem.run_pure,aq,bu]
  ·cases h
def QN(fn:Func)(tmps:Array Value):results fn tmps=(do
  let a<-fn.results.mapM (uA tmps)
  pure (if h:a.size=1 then a[0]else .tuple a)):=by
 unfold results
 congr 1
def It{ρ:Env}{H:af}{w:World}{ad:bl}{a:Act}(k:Rel ρ H w)(l:ey ρ ad a){fn:Func}{d:List aa}(h:iQ P ad H fn.results.toList=D d):
  ∃x,(results fn a.tmps).run P w= .ok x w/\bq ρ (oB d) x:=by
 obtain⟨xs,aq,aH⟩:=B1 k l h;have hm:(fn.results.mapM (uA a.tmps)).run P w= .ok xs.toArray w:=by
  rw[Array.mapM_eq_mapM_toList];simp only[Sem.run_map,aq,Result.andThen_ok]
 refine⟨if h:xs.toArray.size=1 then xs.toArray[0]else .tuple xs.toArray,?_,?_⟩
 ·rw[QN];simp only[Sem.run_bind,hm,Result.andThen_ok,Sem.run_pure]
 ·cases aH with
  |nil=>exact .tuple [] [] .nil
  |cons v x n q c e=>
   cases e with
   |nil=>exact c
   |cons m p o s i j=>
    simp only[oB];rw[dif_neg (by simp)];exact .tuple _ _ (.cons _ _ _ _ c (.cons _ _ _ _ i j))
structure pO(P:Program):Prop where
 mixed:P.follows .mixedOrders=true
 names:∀fn∈P.funcs,(fn.name== "runtime.NumGoroutine")=false
 HQ:∀(f:Nat) (fn:Func) (c:Code),P.funcs[f]? =some fn->fn.body=some c->lG c=true
def Dc(a:pO P)(k:kN E P aB):∀n,kN E P (cg P aB N n)
 |0=>λg args H v H' h=>by cases h
 |n+1=>by
  intro g args H v H' h ρ w xs l o m z next p
  simp only[cg]at h;split at h
  ·rename_i r F;cases h;exact k g args H v H' F ρ w xs l o m z next p
  split at h
  ·cases h
  ·rename_i fn d;split at h
   ·cases h
   ·rename_i c i;split at h
    ·cases h
    ·rename_i ex ad H1 u;have L:=Dc a k n;have s:=Db (N:=N) Im (Io a.mixed L) c (a.HQ _ _ _ d i);have A:(fn.name== "runtime.NumGoroutine")=false:=a.names fn (Array.mem_of_getElem? d);have G:(callFunc g xs.toArray).run P w= .ok (.enter g xs.toArray) w:=by
      unfold callFunc;simp[d,i];intro y;simp[y]at A
     unfold ov;rw[G];simp only
     split at h
     ·cases h
     ·rename_i B;split at h
      ·cases h
      ·rename_i Q K;simp only[aZ,cj]at h;obtain⟨rfl,rfl⟩:=h;refine calls_of_wp d i (s _ _ _ _ _ u ρ w _ _ l o (C5 m fn.ntmps) λO bt M e j=> ?_);obtain⟨x,aq,aH⟩:=It j.rel e K;have q:=p x M O aH j;cases ex with
       |normal=>exact⟨e.none,x,aq,q⟩
       |ret=>exact⟨e.none,x,aq,q⟩
       |exit id=>exact absurd rfl (B id)
end
section
variable {E:Env}{P:Program}{aB:aD}
def pN(P:Program)(aB:aD)(f:Nat)(args:List aa)(H:af)(r:aa×af):Prop:=∃k,∀N,k<=N->∀n,k<=n->cg P aB N n f args H=D r
def pN.uniq{f:Nat}{args:List aa}{H:af}{r s:aa×af}(h:pN P aB f args H r)(a8:pN P aB f args H s):r=s:=by
 obtain⟨k,d⟩:=h;obtain⟨j,c⟩:=a8;have a:=d (max k j) (Nat.le_max_left ..) (max k j) (Nat.le_max_left ..);rw[c (max k j) (Nat.le_max_right ..) (max k j) (Nat.le_max_right ..)]at a;exact(Option.some.inj a).symm
open Classical in
noncomputable def aI(P:Program)(aB:aD):aD:=λf args H=>if h:∃r,pN P aB f args H r then D h.choose else C
def De{f:Nat}{args:List aa}{H:af}{r:aa×af}(h:aI P aB f args H=D r):pN P aB f args H r:=by
 unfold aI at h;split at h
 ·rename_i a;rw[<-Option.some.inj h];exact a.choose_spec
 ·cases h
def Gd{f:Nat}{args:List aa}{H:af}{r:aa×af}(h:pN P aB f args H r):aI P aB f args H=D r:=by
 unfold aI;have a:∃r,pN P aB f args H r:=⟨r,h⟩;rw[dif_pos a];exact congrArg D (a.choose_spec.uniq h)
def Ni(c:pO P)(a:kN E P aB):kN E P (aI P aB):=by
 intro g args H v H' h;obtain⟨k,d⟩:=De h;exact Dc c a k g args H v H' (d k (bo _) k (bo _))
def UE{o:Op}{ad:bl}{H:af}{x:K}(h:step1 P (aI P aB) o ad H=D x):∃k,∀N,k<=N->∀n,k<=n->step1 P (cg P aB N n) o ad H=D x:=by
 unfold step1 at h;unfold step1;split at h
 ·exact⟨0,λ_ _ _ _=>h⟩
 ·exact⟨0,λ_ _ _ _=>h⟩
 ·exact⟨0,λ_ _ _ _=>h⟩
 ·exact⟨0,λ_ _ _ _=>h⟩
 ·exact⟨0,λ_ _ _ _=>h⟩
 ·split at h
  ·split at h
   ·rename_i g j d;cases a:aI P aB g j H with
    |none=>rw[a]at h;cases h
    |some r=>
     obtain⟨k,e⟩:=De a;refine⟨k,λN c n i=> ?_⟩;rw[a]at h;simp only[d,e N c n i];exact h
   ·cases h
  ·cases h
def FL{ops:Array Oper}{o:Oper}{ad:bl}{H:af}{x:K}(h:iU P (aI P aB) ops o ad H=D x):∃k,∀N,k<=N->∀n,k<=n->iU P (cg P aB N n) ops o ad H=D x:=by
 unfold iU at h;unfold iU;split at h
 ·rename_i hw;obtain⟨k,c⟩:=UE h;exact⟨k,λN a n d=>c N a n d⟩
 ·exact⟨0,λ_ _ _ _=>h⟩
def IY{ops:Array Oper}:∀{os:List Oper} {ad:bl} {H:af} {x:bl×af},ja P (aI P aB) ops os ad H=D x->∃k,∀N,k<=N->∀n,k<=n->ja P (cg P aB N n) ops os ad H=D x
 |[],ad,H,x,h=>⟨0,λ_ _ _ _=>h⟩
 |o::os,ad,H,x,h=>by
  simp only[ja]at h;split at h
  ·cases h
  ·rename_i y e;split at h
   ·cases h
   ·rename_i bj a;obtain⟨k,d⟩:=FL e;obtain⟨j,c⟩:=IY h;refine⟨max k j,λN i n l=> ?_⟩;simp only[ja,d N ae n ae,a,c N ae n ae]
def CQ{ops:Array Oper}:∀{is:List Nat} {ad:bl} {H:af} {x:List b1×bl×af},canRun P (aI P aB) ops is ad H=D x->∃k,∀N,k<=N->∀n,k<=n->canRun P (cg P aB N n) ops is ad H=D x
 |[],ad,H,x,h=>⟨0,λ_ _ _ _=>h⟩
 |i::is,ad,H,x,h=>by
  simp only[canRun]at h;split at h
  ·cases h
  ·rename_i o l;split at h
   ·cases h
   ·rename_i y m;split at h
    ·cases h
    ·rename_i bj a;split at h
     ·cases h
     ·rename_i T cU b5 c;obtain⟨k,e⟩:=FL m;obtain⟨j,d⟩:=CQ c;refine⟨max k j,λN p n q=> ?_⟩;simp only[canRun,l,e N ae n ae,a,d N ae n ae];exact h
def QI{ops:Array Oper}{d:Bool}{ad:bl}{H:af}{x:bl×af}(h:gq P (aI P aB) ops d ad H=D x):∃k,∀N,k<=N->∀n,k<=n->gq P (cg P aB N n) ops d ad H=D x:=by
 unfold gq at h;unfold gq;split at h
 ·obtain⟨k,c⟩:=IY h;exact⟨k,λN a n e=>c N a n e⟩
 ·split at h
  ·cases h
  ·rename_i T bj H' i;obtain⟨k,c⟩:=CQ i;refine⟨k,λN a n e=> ?_⟩;simp only[c N a n e];exact h
def FF{f:bl->af->Option (aE×bl×af)}:∀{n m:Nat} {ad:bl} {H:af} {x:aE×bl×af},iter f n ad H=D x->n<=m->iter f m ad H=D x
 |0,_,_,_,_,h,_=>by cases h
 |n+1,0,_,_,_,_,hm=>ae
 |n+1,m+1,ad,H,x,h,hm=>by
  simp only[iter]at h ⊢;split at h
  ·rename_i bj H' he;exact FF h ae
  ·exact h
def FE{f:bl->af->Option (aE×bl×af)}{g:Nat->Nat->bl->af->Option (aE×bl×af)}(a:∀ad H x,f ad H=D x->∃k,∀N,k<=N->∀n,k<=n->g N n ad H=D x):
  ∀{M:Nat} {ad:bl} {H:af} {x:aE×bl×af},iter f M ad H=D x->∃k,∀N,k<=N->∀n,k<=n->iter (g N n) M ad H=D x
 |0,_,_,_,h=>by cases h
 |M+1,ad,H,x,h=>by
  simp only[iter]at h;split at h
  ·rename_i bj H' he;obtain⟨k,c⟩:=a _ _ _ he;obtain⟨j,i⟩:=FE a h;refine⟨max k j,λN d n e=> ?_⟩;simp only[iter,c N ae n ae];exact i N ae n ae
  ·rename_i l;obtain⟨k,c⟩:=a _ _ _ h;refine⟨k,λN d n e=> ?_⟩;simp only[iter,c N d n e];split
   ·rename_i bj H' he;cases he;exact absurd h (l _ _)
   ·rfl
def Ng{M:Nat}:∀(c:Code) {ad:bl} {H:af} {x:aE×bl×af},cW (gq P (aI P aB)) M c ad H=D x->∃k,∀N,k<=N->∀n,k<=n->cW (gq P (cg P aB N n)) N c ad H=D x:=by
 intro c
 induction c with
 |skip=>intro ad H x h;exact⟨0,λ_ _ _ _=>h⟩
 |region id ops d=>
  intro ad H x h;simp only[cW]at h;split at h
  ·rename_i w H1 o;obtain⟨k,e⟩:=QI o;refine⟨k,λN i n m=> ?_⟩;simp only[cW,e N i n m];exact h
  ·cases h
 |seq a b q s=>
  intro ad H x h;simp only[cW]at h;split at h
  ·rename_i w H1 o;obtain⟨k,e⟩:=q o;obtain⟨j,z⟩:=s h;refine⟨max k j,λN i n m=> ?_⟩;simp only[cW,e N ae n ae,z N ae n ae]
  ·rename_i v;obtain⟨k,e⟩:=q h;refine⟨k,λN i n m=> ?_⟩;simp only[cW,e N i n m];split
   ·rename_i bj H' he;cases he;exact absurd h (v _ _)
   ·rfl
 |cond c a b q s=>
  intro ad H x h;simp only[cW]at h;split at h
  ·rename_i u;obtain⟨k,e⟩:=q h;refine⟨k,λN i n m=> ?_⟩;simp only[cW,u,e N i n m]
  ·rename_i u;obtain⟨k,e⟩:=s h;refine⟨k,λN i n m=> ?_⟩;simp only[cW,u,e N i n m]
  ·cases h
 |block id b p=>
  intro ad H x h;simp only[cW]at h;split at h
  ·rename_i B w H1 o;obtain⟨k,e⟩:=p o;refine⟨k,λN i n m=> ?_⟩;simp only[cW,e N i n m];exact h
  ·rename_i v;obtain⟨k,e⟩:=p h;refine⟨k,λN i n m=> ?_⟩;simp only[cW,e N i n m];split
   ·rename_i B bj H' he;cases he;exact absurd h (v _ _ _)
   ·rfl
 |loop b p=>
  intro ad H x h;simp only[cW]at h;obtain⟨k,e⟩:=FE (g:=λN n=>cW (gq P (cg P aB N n)) N b) (λad H x A=>p A) h;refine⟨max k M,λN i n m=> ?_⟩;simp only[cW];exact FF (e N ae n ae) ae
 |exit id=>intro ad H x h;exact⟨0,λ_ _ _ _=>h⟩
 |ret=>intro ad H x h;exact⟨0,λ_ _ _ _=>h⟩
 |label l=>intro ad H x h;exact⟨0,λ_ _ _ _=>h⟩
 |goto l=>intro ad H x h;cases h
 |scope b p=>intro ad H x h;cases h
 |rangeFunc f E a b q s=>intro ad H x h;cases h
 |refuse y=>intro ad H x h;cases h
def Dd{f:Nat}{args:List aa}{H H':af}{fn:Func}{c:Code}{M:Nat}{ex:aE}{ad:bl}{d:List aa}(e:aB f args H=C)(j:P.funcs[f]? =D fn)(i:fn.body=D c)
  (h:cW (gq P (aI P aB)) M c (bl.enter fn.ntmps args) H=D (ex,ad,H')) (hex:∀id,ex≠ .exit id) (a:iQ P ad H' fn.results.toList=D d):aI P aB f args H=D (oB d,H'):=by
 obtain⟨k,l⟩:=Ng c h;refine Gd ⟨k+1,λN m n o=> ?_⟩;cases n with
 |zero=>omega
 |succ n=>
  simp only[cg,e,j,i,l N ae n ae];cases ex with
  |exit id=>exact absurd rfl (hex id)
  |normal=>simp only[a]
  |ret=>simp only[a]
def oI{f:Nat}{args:List aa}{H:af}{r:aa×af}(h:aB f args H=D r):aI P aB f args H=D r:=by
 refine Gd ⟨1,λN a n c=> ?_⟩;cases n with
 |zero=>omega
 |succ n=>simp only[cg,h]
end
abbrev O:=Option (aa×af)
abbrev cU:=Nat->aa
def fe(ad:cU)(dst:Option Nat)(v:aa):cU:=match dst with
 |none=>ad
 |some d=>λe=>bif Nat.beq e d then v else ad e
def dH(ad:cU):Operand->Option aa
 | .tmp t=>D (ad t)
 | .const v=>ud v
 | .global _=>C
 | .func f=>D (.func (.func f) [] [])
def nt(ad:cU):List Operand->Option (List aa)
 |[]=>D []
 |x::xs=>(dH ad x).bind λv=>(nt ad xs).bind λa=>D (v::a)
def tC(ad:cU):List (Nat×Operand)->Option (List (Nat×aa))
 |[]=>D []
 |(i,x)::xs=>(dH ad x).bind λv=>(tC ad xs).bind λa=>D ((i,v)::a)
def tD(ad:cU):Option Operand->Option (Option aa)
 |none=>D C
 |some x=>(dH ad x).bind λv=>D (D v)
def cE(c:aa)(a b:Option aa):Option aa:=match c with
 | .bool t=>bif t then a else b
 |_=>C
def vs(P:Program)(t:TypeId)(c:Bool)(a b:aa):Bool:=
 match a,b with
 | .nilIface,.nilIface=>c
 | .agg _,.agg _=> !P.eqGuardType P.depth t
 |_,_=>X
def au(P:Program)(op:BinOp)(t:TypeId)(c:Bool)(x y:aa):Option aa:=
 match x,y with
 | .int k a,.int d b=>
  (match op with
  | .shl=>rU .shl k a b
  | .shr=>rU .shr k a b
  |op=>if k=d then ji op k a b else C)
 | .str a,.str b=>uV op a b
 |x,y=>
  (match op with
  | .eql=>if vs P t c x y then(ln P 10000 t x y).map .bool else C
  | .neq=>if vs P t c x y then(ln P 10000 t x y).map λb=> .bool (!b)else C
  |_=>C)
def M9(P:Program)(t:TypeId)(x y:Operand)(u v:aa):vs P t (isConst x||isConst y) u v=p5 P t x y u v:=by
 unfold vs p5;cases u<;>cases v<;>rfl
def No(P:Program)(op:BinOp)(t:TypeId)(x y:Operand)(u v:aa):au P op t (isConst x||isConst y) u v=th P op t x y u v:=by
 unfold au th;simp only[M9];cases u<;>cases v<;>cases op<;>rfl
def vy(P:Program)(o:Op)(ad:cU):Option aa:=
 match o with
 | .move x=>dH ad x
 | .assign x=>dH ad x
 | .pick c a b=>(dH ad c).bind λu=>cE u (dH ad a) (dH ad b)
 | .build t n=>(tC ad n.toList).bind (cS P t)
 | .nilCheck x=>(dH ad x).bind cp
 | .binOp op t x y _=>(dH ad x).bind λu=>(dH ad y).bind λv=>au P op t (isConst x||isConst y) u v
 | .unOp op _ x=>(dH ad x).bind (fD op)
 | .convert s d x=>(dH ad x).bind (oz P s d)
 | .makeInterface t x=>(dH ad x).bind (x7 P t)
 | .makeFunc fn f c=>(nt ad f.toList).bind λe=>(nt ad c.toList).bind λcs=>D (.func fn e cs)
 | .slice t x lo j k=>(dH ad x).bind λv=>(tD ad lo).bind λl=>(tD ad j).bind λh=>(tD ad k).bind λm=>lp P t v l h m
 | .fieldAddr t x f=>(dH ad x).bind λv=>aJ P t v f
 | .field t x f=>(dH ad x).bind λv=>c0 P t v f
 | .indexAddr t x i=>(dH ad x).bind λu=>(dH ad i).bind λv=>cF P t u v
 | .index t x i=>(dH ad x).bind λu=>(dH ad i).bind λv=>fC P t u v
 | .extract x i=>(dH ad x).bind λv=>h6 v i
 | .typeAssert x _ t ok=>(dH ad x).bind (x0 P t ok)
 | .call c=>match c.callee with
  | .builtin b=>(nt ad c.args.toList).bind (cx P .empty b c.argTypes.toList)
  |_=>C
 |_=>C
def rQ(P:Program)(o:Op)(ad:cU)(H:af):Option aa:=
 match o with
 | .load t x=>(dH ad x).bind (ao P H t)
 | .lookup t x k ok=>(dH ad x).bind λu=>(dH ad k).bind λv=>vg P H t u v ok
 | .convert s d x=>(dH ad x).bind (pQ P H s d)
 | .call c=>match c.callee with
  | .builtin b=>(nt ad c.args.toList).bind (cx P H b c.argTypes.toList)
  |_=>C
 |_=>C
def dR(l:Nat)(v:aa):Option (aa×cb):=bif v.cells.all aa.one then D (.ptr l 0 0,.row U v.cells.length [v.cells])else C
def rE(ot:Option TypeId)(l:Nat)(v:aa):Option (aa×cb):=bif v.cells.all aa.one then D (.ptr l 0 0,eg ot v.cells.length [v.cells])else C
def cl(P:Program)(l:Nat)(t:TypeId)(len:Nat)(parts:List (Nat×aa)):Option (aa×cb):=
 match P.underlying t with
 |some (.slice e)=>
  (match cQ P e,fE P e with
  |some a,D z=>
   bif decide (len*a<=16777216/\z.cells.length=a/\z.cells.all aa.one=X)then
    (kk a (List.replicate len z.cells) parts).bind λels=>D (.aG l 0 len a (D len),.row U a els)
   else C
  |_,_=>C)
 |_=>C
def yJ(P:Program)(o:Op)(ad:cU)(l:Nat):Option (aa×cb):=
 match o with
 | .alloc t=>(fE P t).bind (rE (sb P t) l)
 | .box t x=>(dH ad x).bind (rE (sb P t) l)
 | .buildSlice t n a=>(tC ad a.toList).bind (cl P l t n)
 | .makeMap _ C=>D (.map l,.map [])
 | .makeSlice t x c=>(dH ad x).bind λu=>(dH ad c).bind λv=>ql (vh P ⟨.leaf,l⟩ t u v) l
 |_=>C
def yN(P:Program)(o:Op)(ad:cU)(H:af):Option (aa×af):=
 match o with
 | .store t x y=>(dH ad x).bind λu=>(dH ad y).bind λv=>(ba P H t u v).bind λH'=>D (.tuple [],H')
 | .mapUpdate t m k x=>(dH ad m).bind λu=>(dH ad k).bind λv=>(dH ad x).bind λz=>(rA P H t u v z).bind λH'=>D (.tuple [],H')
 | .insert t m k x=>(dH ad m).bind λu=>(dH ad k).bind λv=>(dH ad x).bind λz=>(rA P H t u v z).bind λH'=>D (.tuple [],H')
 | .call c=>match c.callee,c.args.toList with
  | .builtin .append,[s,x]=>(dH ad s).bind λu=>(dH ad x).bind λv=>df P H c.argTypes.toList u v
  | .builtin .clear,[x]=>(dH ad x).bind λu=>(ve P H c.argTypes.toList u).bind λH'=>D (.tuple [],H')
  |_,_=>C
 |_=>C
def CP(f:aa)(a:List aa):Option (Nat×List aa):=match f with
 | .func (.func g) first captured=>D (g,first++a++captured)
 |_=>C
def GS(P:Program)(H:af)(r:aa)(name:String)(a:List aa):Option (Nat×List aa):=(rB P H r name).bind λp=>D (p.1,p.2::a)
def yC(P:Program)(H:af)(ad:cU)(c:Call):Option (Nat×List aa):=
 match c.callee with
 | .value f=>(dH ad f).bind λu=>(nt ad c.args.toList).bind λa=>CP u a
 | .invoke r name=>(dH ad r).bind λu=>(nt ad c.args.toList).bind λa=>GS P H u name a
 |_=>C
def iM(a b:Option aa)(k:K->O):O:=match a with
 |some v=>k (.pure v)
 |none=>b.bind λv=>k (.read v)
def xH(r:Option (aa×cb))(k:K->O):O:=match r with
 |some (v,b)=>k (.new v b)
 |none=>C
def eQ(H:af)(r:O)(k:K->O):O:=match r with
 |some (v,H')=>bif decide (H.next<=H'.next)then k (.eL v H')else C
 |none=>C
def vv(P:Program)(call:aD)(o:Op)(ad:cU)(H:af)(k:K->O):O:=
 match cls o with
 | .pure=>(vy P o ad).bind λv=>k (.pure v)
 | .read=>(rQ P o ad H).bind λv=>k (.read v)
 | .both=>iM (vy P o ad) (rQ P o ad H) k
 | .new=>xH (yJ P o ad H.next) k
 | .write=>eQ H (yN P o ad H) k
 | .call=>match o with
  | .call c=>(yC P H ad c).bind λp=>eQ H (call p.1 p.2 H) k
  |_=>C
def fZ(b:aa)(want:Bool)(m:(K->O)->O)(k:K->O):O:=match b with
 | .bool t=>bif t==want then m k else k .skip
 |_=>k .skip
def vx(P:Program)(call:aD)(ops:Array Oper)(o:Oper)(ad:cU)(H:af)(k:K->O):O:=
 match o.guard with
 |none=>vv P call o.op ad H k
 |some (j,want)=>match ops[j]? with
  |some q=>(match q.dst with
   |some d=>fZ (ad d) want (vv P call o.op ad H) k
   |none=>k .skip)
  |none=>k .skip
def xk(P:Program)(call:aD)(ops:Array Oper):List Oper->cU->af->(cU->af->O)->O
 |[],ad,H,k=>k ad H
 |o::os,ad,H,k=>vx P call ops o ad H λx=>xk P call ops os (fe ad o.dst x.val) (x.heap H) k
structure hN where
 i:Nat
 k:K
 rd:af->Option aa
def p3(ms:List Nat):List hN->List Nat->Bool
 |[],_=>X
 |t::ts,ids=>match t.k with
  | .eL _ _=>ids.all (λj=>dE ms j t.i)&&p3 ms ts (t.i::ids)
  | .new _ _=>p3 ms ts (t.i::ids)
  |_=>p3 ms ts ids
def bp(r:Option aa)(v:aa):Bool:=match r with
 |some u=>aa.beq u v
 |none=>U
def pJ(ms:List Nat)(rd:af->Bool)(i:Nat):List hN->af->Bool
 |[],H=>rd H
 |t::ts,H=>bif t.k.fF then(dE ms t.i i||rd H)&&(dE ms i t.i||pJ ms rd i ts (t.k.heap H))else pJ ms rd i ts H
def pX(ms:List Nat)(i:Nat):List hN->Bool->Bool
 |[],_=>U
 |t::ts,s=>match t.k with
  | .new _ _=>(s&&dE ms t.i i&&ts.all λu=>oR u.k)||pX ms i ts (s|| !dE ms t.i i)
  | .eL _ _=>pX ms i ts (s|| !dE ms t.i i)
  |_=>pX ms i ts s
def qk(ms:List Nat)(rd:af->Bool)(i:Nat):List hN->af->Bool->Bool
 |[],_,_=>U
 |t::ts,H,s=>match t.k with
  | .new _ b=>bif s&&dE ms t.i i&&ts.all (λu=>oR u.k)then rd (H.push b).only||qk ms rd i ts (H.push b) (s|| !dE ms t.i i)else qk ms rd i ts (H.push b) (s|| !dE ms t.i i)
  | .eL _ H'=>qk ms rd i ts H' (s|| !dE ms t.i i)
  |_=>qk ms rd i ts H s
def uM(ms:List Nat)(rd:af->Bool)(i:Nat)(T:List hN)(H:af):Bool:=bif pX ms i T U then pJ ms rd i T H||qk ms rd i T H U else pJ ms rd i T H
def s6(ms:List Nat)(a:List Nat)(T:List hN)(H:af):List hN->Bool
 |[]=>X
 |t::ts=>(match t.k with
  | .read v=>a.contains t.i||uM ms (λH=>bp (t.rd H) v) t.i T H
  |_=>X)&&s6 ms a T H ts
def oF(ms:List Nat)(a:List Nat)(T:List hN)(H:af):Bool:=p3 ms T []&&s6 ms a T H T
def tr(P:Program)(call:aD)(ops:Array Oper):List Nat->cU->af->(List hN->cU->af->O)->O
 |[],ad,H,k=>k [] ad H
 |i::is,ad,H,k=>match ops[i]? with
  |none=>C
  |some o=>vx P call ops o ad H λx=>tr P call ops is (fe ad o.dst x.val) (x.heap H) λT bj H'=>k (⟨i,x,rQ P o.op ad⟩::T) bj H'
def AV(ops:Array Oper):List Nat:=(order ops).filter (tied ops (ee ops) (order ops))
def quiet(ops:Array Oper):Bool:=ops.toList.all λo=> !qc o.op
def Ae(P:Program)(call:aD)(ops:Array Oper)(draw:Bool)(ad:cU)(H:af)(k:cU->af->O):O:=
 match draw with
 |false=>xk P call ops ops.toList ad H k
 |true=>bif quiet ops then tr P call ops (order ops) ad H λ_ bj H'=>k bj H' else
  tr P call ops (order ops) ad H λT bj H'=>bif oF (ee ops) (AV ops) T H then k bj H' else C
def a7(c:Option aa)(a b:O):O:=match c with
 |some (.bool t)=>bif t then a else b
 |_=>C
abbrev e2:=cU->af->O
def look(i:Nat):List (Nat×e2)->e2
 |[],_,_=>C
 |(j,k)::ks,ad,H=>bif Nat.beq i j then k ad H else look i ks ad H
def qd(b:e2->e2):Nat->e2
 |0,_,_=>C
 |n+1,ad,H=>b (λad H=>qd b n ad H) ad H
def bC(P:Program)(call:aD)(N:Nat):Code->e2->List (Nat×e2)->e2->e2
 | .skip,e,_,_,ad,H=>e ad H
 | .region _ ops d,e,_,_,ad,H=>Ae P call ops d ad H e
 | .seq a b,e,ks,h,ad,H=>bC P call N a (λad H=>bC P call N b e ks h ad H) ks h ad H
 | .cond c a b,e,ks,h,ad,H=>a7 (dH ad c) (bC P call N a e ks h ad H) (bC P call N b e ks h ad H)
 | .block id b,e,ks,h,ad,H=>bC P call N b e ((id,e)::ks) h ad H
 | .loop b,_,ks,h,ad,H=>qd (λe ad H=>bC P call N b e ks h ad H) N ad H
 | .exit id,_,ks,_,ad,H=>look id ks ad H
 | .ret,_,_,h,ad,H=>h ad H
 | .label _,e,_,_,ad,H=>e ad H
 |_,_,_,_,_,_=>C
def sn(P:Program)(H:af)(ad:cU):List ResultVar->(List aa->O)->O
 |[],k=>k []
 | .tmp t::rs,k=>sn P H ad rs λc=>k (ad t::c)
 | .cell a t::rs,k=>(ao P H t (ad a)).bind λv=>sn P H ad rs λc=>k (v::c)
def nD(P:Program)(rs:List ResultVar):e2:=λad H=>sn P H ad rs λa=>D (oB a,H)
def nn:List aa->cU
 |[],_=> .tuple []
 |v::_,0=>v
 |_::a,n+1=>nn a n
section
variable {P:Program}{aB:aD}{call:aD}{ad bj:bl}{H:af}
def mg(x:Operand):dH ad.get x=cu ad x:=by cases x<;>rfl
def tE:∀xs:List Operand,nt ad.get xs=ix ad xs
 |[]=>rfl
 |x::xs=>by
  simp only[nt,ix,mg,tE xs];cases cu ad x<;>cases ix ad xs<;>rfl
def yL:∀xs:List (Nat×Operand),tC ad.get xs=ki ad xs
 |[]=>rfl
 |(i,x)::xs=>by
  simp only[tC,ki,mg,yL xs];cases cu ad x<;>cases ki ad xs<;>rfl
def N7(x:Option Operand):tD ad.get x=lq ad x:=by
 cases x with
 |none=>rfl
 |some x=>simp only[tD,lq,mg];cases cu ad x<;>rfl
def Fq(o:Op):vy P o ad.get=kj P o ad:=by
 cases o<;>simp only[vy,kj,mg,tE,yL,N7,No]
 ·rename_i c a b;cases d:cu ad c with
  |none=>rfl
  |some v=>cases v<;>first|rfl|(rename_i t;cases t<;>rfl)
 ·rename_i c;cases c.callee<;>rfl
def yM(o:Op):rQ P o ad.get H=iw P o ad H:=by
 cases o<;>simp only[rQ,iw,mg,tE]
 ·rename_i c;cases c.callee<;>rfl
def zG(v:aa)(l:Nat)(b:cb)(a:b.lB=X):ql (D (v,af.push ⟨.leaf,l⟩ b)) l=D (v,b):=by
 unfold ql;simp only[af.ch,if_true];have:(af.push ⟨.leaf,l⟩ b).get l=D b:=af.bY ⟨.leaf,l⟩ b;rw[this];simp[a]
def Pq(ot:Option TypeId)(esz:Nat)(els:List (List aa)):(eg ot esz els).lB=true:=by cases ot<;>rfl
def CJ(ot:Option TypeId)(l:Nat)(v:aa):rE ot l v=ql (ru ot ⟨.leaf,l⟩ v) l:=by
 unfold rE ru;by_cases h:v.cells.all aa.one=X
 ·rw[h,if_pos rfl];exact(zG _ _ _ (Pq _ _ _)).symm
 ·rw[if_neg h];simp only[Bool.not_eq_true]at h;rw[h];rfl
def Ut(l:Nat)(t:TypeId)(n:Nat)(a:List (Nat×aa)):cl P l t n a=ql (ti P ⟨.leaf,l⟩ t n a) l:=by
 unfold cl ti;cases hu:P.underlying t with
 |none=>rfl
 |some d=>
  cases d<;>try rfl
  rename_i e;simp only
  cases ar:cQ P e with
  |none=>rfl
  |some c=>
  cases i:fE P e with
  |none=>rfl
  |some z=>
   simp only
   by_cases h:n*c<=16777216/\z.cells.length=c/\z.cells.all aa.one=X
   ·rw[if_pos h,decide_eq_true h];simp only[aS];cases kk c (List.replicate n z.cells) a with
    |none=>rfl
    |some els=>exact(zG _ _ _ rfl).symm
   ·rw[if_neg h,decide_eq_false h];rfl
def NU(o:Op)(l:Nat):yJ P o ad.get l=kQ P o ad l:=by
 unfold kQ;cases o<;>simp only[yJ,pT,mg,yL]<;>try rfl
 ·rename_i t;unfold vd;cases fE P t with
  |none=>rfl
  |some v=>exact CJ _ l v
 ·rename_i t x;cases cu ad x with
  |none=>rfl
  |some v=>exact CJ _ l v
 ·rename_i t n a;cases ki ad a.toList with
  |none=>rfl
  |some v=>exact Ut l t n v
 ·rename_i t r;cases r with
  |none=>exact(zG _ _ _ rfl).symm
  |some r=>rfl
 ·rename_i t x c;cases cu ad x with
  |none=>rfl
  |some u=>cases cu ad c<;>rfl
def map_bind{α β:Type}(x:Option α)(f:α->β):x.bind (λa=>D (f a))=x.map f:=by cases x<;>rfl
def N8(o:Op):yN P o ad.get H=l9 P o ad H:=by
 cases o<;>simp only[yN,l9,mg,map_bind]
 ·rename_i c;cases d:c.callee with
  |builtin b=>
   cases a:c.args.toList with
   |nil=>cases b<;>rfl
   |cons s r=>
    cases r with
    |nil=>cases b<;>rfl
    |cons x r=>cases r<;>cases b<;>rfl
  |value f=>rfl
  |invoke r m=>rfl
def Nq(c:Call):yC P H ad.get c=nm P H ad c:=by
 unfold yC nm;cases h:c.callee with
 |value f=>
  simp only[mg,tE];cases cu ad f with
  |none=>rfl
  |some v=>
   cases d:ix ad c.args.toList with
   |none=>
    simp only[Option.bind_some,Option.bind_none];split<;>first|rfl|(simp_all;done)
   |some e=>
    simp only[Option.bind_some];unfold CP;split
    ·rename_i g first captured;rfl
    ·rename_i a;split
     ·rename_i g first captured he
      simp only[aZ]at he;exact absurd he (a _ _ _)
     ·rfl
 |invoke r m=>
  simp only[mg,tE];cases cu ad r with
  |none=>rfl
  |some v=>
   simp only[Option.bind_some];cases d:ix ad c.args.toList with
   |none=>cases rB P H v m<;>rfl
   |some e=>
    simp only[Option.bind_some,GS];cases rB P H v m<;>rfl
 |builtin b=>rfl
def Er(o:Op)(k:K->O):vv P call o ad.get H k=(step1 P call o ad H).bind k:=by
 unfold vv step1;cases e:cls o with
 |pure=>simp only[Fq];cases kj P o ad<;>rfl
 |read=>simp only[yM];cases iw P o ad H<;>rfl
 |both=>
  simp only[Fq,yM];unfold iM;cases kj P o ad with
  |some v=>rfl
  |none=>cases iw P o ad H<;>rfl
 |new=>
  simp only[NU];unfold xH;cases kQ P o ad H.next<;>rfl
 |write=>
  simp only[N8];unfold eQ;cases h:l9 P o ad H with
  |none=>rfl
  |some r=>
   obtain⟨v,H'⟩:=r;simp only[rX];by_cases a:H.next<=H'.next
   ·rw[if_pos a,decide_eq_true a];rfl
   ·rw[if_neg a,decide_eq_false a];rfl
 |call=>
  cases o<;>try rfl
  rename_i c;simp only[Nq];cases nm P H ad c with
  |none=>rfl
  |some p=>
   obtain⟨g,d⟩:=p;simp only[Option.bind_some];unfold eQ;cases h:call g d H with
   |none=>rfl
   |some r=>
    obtain⟨v,H'⟩:=r;simp only[rX];by_cases a:H.next<=H'.next
    ·rw[if_pos a,decide_eq_true a];rfl
    ·rw[if_neg a,decide_eq_false a];rfl
def Es(ops:Array Oper)(o:Oper)(k:K->O):vx P call ops o ad.get H k=(iU P call ops o ad H).bind k:=by
 unfold vx iU l8;cases c:o.guard with
 |none=>exact Er o.op k
 |some p=>
  obtain⟨j,want⟩:=p;simp only
  cases h:ops[j]? with
  |none=>rfl
  |some q=>
   simp only
   cases a:q.dst with
   |none=>rfl
   |some d=>
    simp only
    cases i:ad.get d<;>try rfl
    rename_i t;simp only[fZ];cases e:(t==want)with
    |true=>simp only[aS];exact Er o.op k
    |false=>rfl
def KD{dst:Option Nat}{v:aa}(h:ad.put dst v=D bj):fe ad.get dst v=bj.get:=by
 funext e
 rw[bl.tI h];cases dst with
 |none=>simp[fe]
 |some d=>
  simp only[fe];by_cases he:e=d
  ·subst he;simp[Nat.beq_refl]
  ·have a:Nat.beq e d=false:=by rw[<-Bool.not_eq_true,Nat.beq_eq];exact he
   rw[a];simp[Ne.symm he]
def p1(n:Nat)(o:Oper):Bool:=match o.dst with
 |none=>X
 |some d=>decide (d<n)
def H3{o:Oper}(h:p1 ad.size o=X)(v:aa):∃bj,ad.put o.dst v=D bj/\bj.size=ad.size:=by
 unfold p1 at h;cases a:o.dst with
 |none=>exact⟨ad,rfl,rfl⟩
 |some d=>
  rw[a]at h;exact⟨{ad with t:=bF.put v (d+1) ad.t d},by simp only[bl.put];rw[if_pos (of_decide_eq_true h)],rfl⟩
def IX(ops:Array Oper)(k:cU->af->O):∀(os:List Oper) (ad:bl) (H:af),os.all (p1 ad.size)=X->
  xk P call ops os ad.get H k=(ja P call ops os ad H).bind λp=>k p.1.get p.2
 |[],ad,H,_=>rfl
 |o::os,ad,H,h=>by
  simp only[List.all_cons,Bool.and_eq_true]at h;simp only[xk,ja,Es];cases d:iU P call ops o ad H with
  |none=>rfl
  |some x=>
   obtain⟨bj,a,c⟩:=H3 h.1 x.val;simp only[Option.bind_some,a,KD a];exact IX ops k os bj _ (by rw[c];exact h.2)
def b1.c(P:Program)(t:b1):hN:=⟨t.i,t.k,rQ P t.o.op t.ad.get⟩
def C3(ms:List Nat):∀(T:List b1) (ids:List Nat),p3 ms (T.map (b1.c P)) ids=kq ms T ids
 |[],_=>rfl
 |t::T,ids=>by
  simp only[List.map_cons,p3,kq,b1.c];cases t.k<;>simp only[C3 ms T]
def Be(ms:List Nat)(rd:af->Bool)(i:Nat):∀(T:List b1) (H:af),pJ ms rd i (T.map (b1.c P)) H=lg ms rd i T H
 |[],_=>rfl
 |t::T,H=>by
  simp only[List.map_cons,pJ,lg,b1.c];cases t.k.fF
  ·simp only[aN];exact Be ms rd i T H
  ·simp only[aS,if_true];rw[Be ms rd i T]
def CR(ms:List Nat)(i:Nat):∀(T:List b1) (s:Bool),pX ms i (T.map (b1.c P)) s=pY ms i T s
 |[],_=>rfl
 |t::T,s=>by
  simp only[List.map_cons,pX,pY,b1.c];cases t.k<;>simp only[CR ms i T,List.all_map]<;>rfl
def G4(ms:List Nat)(rd:af->Bool)(i:Nat):∀(T:List b1) (H:af) (s:Bool),qk ms rd i (T.map (b1.c P)) H s=lE ms rd i T H s
 |[],_,_=>rfl
 |t::T,H,s=>by
  simp only[List.map_cons,qk,lE,b1.c];cases t.k<;>simp only[G4 ms rd i T,List.all_map]<;>rfl
def T6(ms:List Nat)(rd:af->Bool)(i:Nat)(T:List b1)(H:af):uM ms rd i (T.map (b1.c P)) H=sQ ms rd i T H:=by
 simp only[uM,sQ,CR,G4,Be]
def KQ(ms:List Nat)(d:List Nat)(a:Nat->Bool)(T:List b1)(H:af):∀(S:List b1),(∀t∈S,d.contains t.i=a t.i)->s6 ms d (T.map (b1.c P)) H (S.map (b1.c P))=nc P ms a T H S
 |[],_=>rfl
 |t::S,h=>by
  simp only[List.map_cons,s6,nc,KQ ms d a T H S λt e=>h t (by simp[e])]
  congr 1
  simp only[b1.c,h t (by simp)];cases t.k<;>try rfl
  simp only[T6]
  congr 2
  funext H
  simp only[bp,qx,yM];cases iw P t.o.op t.ad H<;>rfl
def H6(ms:List Nat):∀(T:List b1) (ids:List Nat),(∀t∈T,t.k.fF=U)->kq ms T ids=X
 |[],_,_=>rfl
 |t::T,ids,h=>by
  have a:=h t (by simp);simp only[kq];have d:=H6 ms T ids λu hu=>h u (by simp[hu])
  cases c:t.k<;>rw[c]at a<;>first|exact d|(cases a;done)
def H7(ms:List Nat)(a:Nat->Bool)(T:List b1)(H:af):∀(S:List b1),(∀t∈S,a t.i=X)->nc P ms a T H S=X
 |[],_=>rfl
 |t::S,h=>by
  simp only[nc,h t (by simp),H7 ms a T H S λt c=>h t (by simp[c]),Bool.true_or,Bool.and_true];cases t.k<;>rfl
def ym(ops:Array Oper):∀(is:List Nat) (ad:bl) (H:af) (k:List hN->cU->af->O),ops.toList.all (p1 ad.size)=X->
  tr P call ops is ad.get H k=(canRun P call ops is ad H).bind λp=>k (p.1.map (b1.c P)) p.2.1.get p.2.2
 |[],ad,H,k,_=>rfl
 |i::is,ad,H,k,h=>by
  simp only[tr,canRun];cases e:ops[i]? with
  |none=>rfl
  |some o=>
   simp only[Es];cases l:iU P call ops o ad H with
   |none=>rfl
   |some x=>
    have hm:p1 ad.size o=true:=by
     rw[List.all_eq_true]at h;exact h o (by have:=Array.mem_of_getElem? e;simpa using this)
    obtain⟨bj,a,d⟩:=H3 hm x.val;simp only[Option.bind_some,a,KD a];rw[ym ops is bj _ _ (by rw[d];exact h)];cases canRun P call ops is bj (x.heap H)with
    |none=>rfl
    |some p=>obtain⟨T,j,H1⟩:=p;rfl
def QH(ops:Array Oper)(d:Bool)(k:cU->af->O)(h:ops.toList.all (p1 ad.size)=X):Ae P call ops d ad.get H k=(gq P call ops d ad H).bind λp=>k p.1.get p.2:=by
 unfold Ae gq;cases d with
 |false=>exact IX ops k _ ad H h
 |true=>
  simp only
  rw[ym ops _ ad H _ h,ym ops _ ad H _ h];cases l:canRun P call ops (order ops) ad H with
  |none=>cases quiet ops<;>rfl
  |some p=>
   obtain⟨T,z,H1⟩:=p;have u:=(mb l).1;have w:∀t∈T,t.i∈order ops:=λt a=>by rw[<-u];exact List.mem_map.2 ⟨t,a,rfl⟩
   have y:∀t∈T,(AV ops).contains t.i=tied ops (ee ops) (order ops) t.i:=λt a=>by
    unfold AV;rw[Bool.eq_iff_iff,List.contains_iff_mem,List.mem_filter];exact⟨λh=>h.2,λh=>⟨w t a,h⟩⟩
   simp only[Option.bind_some];cases c:quiet ops with
   |true=>
    have m:∀o∈ops.toList,qc o.op=false:=λo x=>by
     unfold quiet at c;rw[List.all_eq_true]at c;simpa using c o x
    have ay:∀t∈T,t.k.fF=false:=λt a=>by
     obtain⟨A,B,n⟩:=List.append_of_mem a;have e:=yn (P:=P) (call:=call) (by rw[<-n];exact l);cases s:t.k.fF with
     |false=>rfl
     |true=>
      have:=FM e.2.2.1 s;rw[m t.o (by have:=Array.mem_of_getElem? e.1;simpa using this)]at this;cases this
    have q:∀t∈T,tied ops (ee ops) (order ops) t.i=true:=λt _=>by
     unfold tied;rw[List.all_eq_true];intro j _;cases v:ops[j]? with
     |none=>simp
     |some o=>simp[m o (by have:=Array.mem_of_getElem? v;simpa using this)]
    simp only[aS,H6 (ee ops) T [] ay,H7 (ee ops) _ T H T q];rfl
   |false=>
    simp only[aN,oF,C3,KQ _ _ _ T H T y];cases kq (ee ops) T []with
    |false=>rfl
    |true=>
     cases nc P (ee ops) (tied ops (ee ops) (order ops)) T H T<;>rfl
def kp(n:Nat):Code->Bool
 | .region _ ops _=>ops.toList.all (p1 n)
 | .seq a b=>kp n a&&kp n b
 | .cond _ a b=>kp n a&&kp n b
 | .block _ b=>kp n b
 | .loop b=>kp n b
 |_=>X
def rH(r:Option (aE×bl×af))(a:e2)(ks:List (Nat×e2))(c:e2):O:=match r with
 |some (.normal,ad,H)=>a ad.get H
 |some (.exit id,ad,H)=>look id ks ad.get H
 |some (.ret,ad,H)=>c ad.get H
 |none=>C
def Jb{ops:Array Oper}:∀{os:List Oper} {ad bj:bl} {H H':af},ja P call ops os ad H=D (bj,H')->bj.size=ad.size
 |[],ad,bj,H,H',h=>by
  simp only[ja,aZ,cj]at h;rw[h.1]
 |o::os,ad,bj,H,H',h=>by
  simp only[ja]at h;split at h
  ·cases h
  ·split at h
   ·cases h
   ·rename_i c a;rw[Jb h,bl.sU a]
def I9{ops:Array Oper}:∀{is:List Nat} {ad bj:bl} {H H':af} {T:List b1},canRun P call ops is ad H=D (T,bj,H')->bj.size=ad.size
 |[],ad,bj,H,H',T,h=>by
  simp only[canRun,aZ,cj]at h;rw[h.2.1]
 |i::is,ad,bj,H,H',T,h=>by
  simp only[canRun]at h;split at h
  ·cases h
  ·split at h
   ·cases h
   ·split at h
    ·cases h
    ·rename_i d a;split at h
     ·cases h
     ·rename_i c;simp only[aZ,cj]at h;obtain⟨_,rfl,_⟩:=h;rw[I9 c,bl.sU a]
def Um{ops:Array Oper}{d:Bool}{ad bj:bl}{H H':af}(h:gq P call ops d ad H=D (bj,H')):bj.size=ad.size:=by
 unfold gq at h;split at h
 ·exact Jb h
 ·split at h
  ·cases h
  ·rename_i a;split at h
   ·cases h
   ·split at h
    ·cases h
    ·simp only[aZ,cj]at h;obtain⟨rfl,_⟩:=h;exact I9 a
def Ja{f:bl->af->Option (aE×bl×af)}(a:∀ad H ex bj H',f ad H=D (ex,bj,H')->bj.size=ad.size):
  ∀{n:Nat} {ad:bl} {H:af} {ex:aE} {bj:bl} {H':af},iter f n ad H=D (ex,bj,H')->bj.size=ad.size
 |0,_,_,_,_,_,h=>by cases h
 |n+1,ad,H,ex,bj,H',h=>by
  simp only[iter]at h;split at h
  ·rename_i d H1 c;rw[Ja a h,a _ _ _ _ _ c]
  ·exact a _ _ _ _ _ h
def I_{N:Nat}:∀(c:Code) {ad:bl} {H:af} {ex:aE} {bj:bl} {H':af},cW (gq P call) N c ad H=D (ex,bj,H')->bj.size=ad.size:=by
 intro c
 induction c with
 |skip=>intro ad H ex bj H' h;simp only[cW,aZ,cj]at h;rw[h.2.1]
 |region id ops d=>
  intro ad H ex bj H' h;simp only[cW]at h;split at h
  ·rename_i m H1 e;simp only[aZ,cj]at h;obtain⟨_,rfl,_⟩:=h;exact Um e
  ·cases h
 |seq a b j k=>
  intro ad H ex bj H' h;simp only[cW]at h;split at h
  ·rename_i m H1 e;rw[k h,j e]
  ·exact j h
 |cond c a b j k=>
  intro ad H ex bj H' h;simp only[cW]at h;split at h
  ·exact j h
  ·exact k h
  ·cases h
 |block id b i=>
  intro ad H ex bj H' h;simp only[cW]at h;split at h
  ·rename_i n m H1 e;split at h<;>(simp only[aZ,cj]at h;obtain⟨_,rfl,_⟩:=h;exact i e)
  ·exact i h
 |loop b i=>
  intro ad H ex bj H' h;simp only[cW]at h;exact Ja (λ_ _ _ _ _ h=>i h) h
 |exit id=>intro ad H ex bj H' h;simp only[cW,aZ,cj]at h;rw[h.2.1]
 |ret=>intro ad H ex bj H' h;simp only[cW,aZ,cj]at h;rw[h.2.1]
 |label l=>intro ad H ex bj H' h;simp only[cW,aZ,cj]at h;rw[h.2.1]
 |goto l=>intro ad H ex bj H' h;cases h
 |scope b i=>intro ad H ex bj H' h;cases h
 |rangeFunc f o a b j k=>intro ad H ex bj H' h;cases h
 |refuse y=>intro ad H ex bj H' h;cases h
def FD{f:bl->af->Option (aE×bl×af)}{b:e2->e2}{ks:List (Nat×e2)}{e:e2}(m:Nat)(ar:∀ad H ex bj H',f ad H=D (ex,bj,H')->bj.size=ad.size)
  (d:∀(ad:bl) (H:af) (a:e2),ad.size=m->b a ad.get H=rH (f ad H) a ks e) (a:e2):∀(n:Nat) (ad:bl) (H:af),ad.size=m->qd b n ad.get H=rH (iter f n ad H) a ks e
 |0,ad,H,_=>rfl
 |n+1,ad,H,c=>by
  simp only[qd,iter];rw[d ad H _ c];cases h:f ad H with
  |none=>rfl
  |some x=>
   obtain⟨ex,i,H1⟩:=x;cases ex with
   |normal=>exact FD m ar d a n i H1 (by rw[ar _ _ _ _ _ h];exact c)
   |exit id=>rfl
   |ret=>rfl
def CW{N:Nat}:∀(c:Code) (ad:bl) (H:af) (e:e2) (ks:List (Nat×e2)) (i:e2),kp ad.size c=X->bC P call N c e ks i ad.get H=rH (cW (gq P call) N c ad H) e ks i:=by
 intro c
 induction c with
 |skip=>intro ad H e ks i _;rfl
 |region id ops d=>
  intro ad H e ks i h;simp only[bC,cW];rw[QH ops d e h];cases gq P call ops d ad H<;>rfl
 |seq a b m n=>
  intro ad H e ks i h;simp only[kp,Bool.and_eq_true]at h;simp only[bC,cW];rw[m ad H _ ks i h.1];cases he:cW (gq P call) N a ad H with
  |none=>rfl
  |some x=>
   obtain⟨ex,j,H1⟩:=x;cases ex with
   |normal=>exact n j H1 e ks i (by rw[I_ a he];exact h.2)
   |exit id=>rfl
   |ret=>rfl
 |cond c a b m n=>
  intro ad H e ks i h;simp only[kp,Bool.and_eq_true]at h;simp only[bC,cW,mg];unfold a7;cases cu ad c with
  |none=>rfl
  |some v=>
   cases v<;>try rfl
   rename_i t;cases t
   ·exact n ad H e ks i h.2
   ·exact m ad H e ks i h.1
 |block id b k=>
  intro ad H e ks i h;simp only[bC,cW];rw[k ad H e _ i h];cases he:cW (gq P call) N b ad H with
  |none=>rfl
  |some x=>
   obtain⟨ex,j,H1⟩:=x;cases ex with
   |normal=>rfl
   |ret=>rfl
   |exit o=>
    simp only[rH,look];by_cases hid:o=id
    ·subst hid;simp[Nat.beq_refl]
    ·have p:Nat.beq o id=false:=by rw[<-Bool.not_eq_true,Nat.beq_eq];exact hid
     rw[p,if_neg hid];rfl
 |loop b k=>
  intro ad H e ks i h;simp only[bC,cW];exact FD ad.size (λ_ _ _ _ _ h=>I_ b h) (λj H1 e q=>k j H1 e ks i (by rw[q];exact h)) e N ad H rfl
 |exit id=>intro ad H e ks i _;rfl
 |ret=>intro ad H e ks i _;rfl
 |label l=>intro ad H e ks i _;rfl
 |goto l=>intro ad H e ks i _;rfl
 |scope b k=>intro ad H e ks i _;rfl
 |rangeFunc f s a b m n=>intro ad H e ks i _;rfl
 |refuse y=>intro ad H e ks i _;rfl
def wG{ad:bl}{H:af}:∀(rs:List ResultVar) (k:List aa->O),sn P H ad.get rs k=(iQ P ad H rs).bind k
 |[],k=>rfl
 | .tmp t::rs,k=>by
  simp only[sn,iQ,rC];rw[wG rs];cases iQ P ad H rs<;>rfl
 | .cell a t::rs,k=>by
  simp only[sn,iQ,rC];cases ao P H t (ad.get a)with
  |none=>rfl
  |some v=>
   simp only[Option.bind_some];rw[wG rs];cases iQ P ad H rs<;>rfl
def B3(n:Nat)(args:List aa):(bl.enter n args).get=nn args:=by
 have h:∀(args:List aa) (d:Nat),nn args d=(args[d]?).getD (.tuple []):=by
  intro args
  induction args with
  |nil=>intro d;cases d<;>rfl
  |cons v e c=>
   intro d;cases d with
   |zero=>rfl
   |succ d=>simpa [nn]using c d
 funext d
 rw[h];unfold bl.get bl.enter;simp only[zI];by_cases a:d<args.length
 ·rw[if_pos ae];simp[a]
 ·rw[if_neg ae,bF.tG];simp[a]
def Nh{f:Nat}{args:List aa}{H:af}{fn:Func}{c:Code}{M:Nat}{r:aa×af}(i:aB f args H=C)(l:P.funcs[f]? =D fn)(k:fn.body=D c)(m:kp fn.ntmps c=X)(n:Nat.ble args.length fn.ntmps=X)
  (h:bC P (aI P aB) M c (nD P fn.results.toList) [] (nD P fn.results.toList) (nn args) H=D r):aI P aB f args H=D r:=by
 have ar:(bl.enter fn.ntmps args).size=fn.ntmps:=by have:=Nat.le_of_ble_eq_true n;simp only[bl.enter];omega
 rw[<-B3 fn.ntmps,CW c _ _ _ _ _ (by rw[ar];exact m)]at h;unfold rH at h;have fin:∀(ad:bl) (H':af),nD P fn.results.toList ad.get H'=D r->∃d,iQ P ad H' fn.results.toList=D d/\r=(oB d,H'):=by
  intro ad H' a;unfold nD at a;rw[wG]at a;cases j:iQ P ad H' fn.results.toList with
  |none=>rw[j]at a;cases a
  |some d=>rw[j]at a;exact⟨d,rfl,(Option.some.inj a).symm⟩
 split at h
 ·rename_i ad H' he;obtain⟨d,e,rfl⟩:=fin ad H' h;exact Dd i l k he (λid=>by intro a;cases a) e
 ·cases h
 ·rename_i ad H' he;obtain⟨d,e,rfl⟩:=fin ad H' h;exact Dd i l k he (λid=>by intro a;cases a) e
 ·cases h
end
end Go.bn
namespace Go
def bd:Code->Code
 | .seq a _=>a
 | .cond _ a _=>a
 | .block _ b=>b
 | .loop b=>b
 |c=>c
def o:Code->Code
 | .seq _ b=>b
 | .cond _ _ b=>b
 |c=>c
def Code.test:Code->Operand
 | .cond c _ _=>c
 |_=> .tmp 0
def Code.num:Code->Nat
 | .block id _=>id
 | .exit id=>id
 |_=>0
def Code.OJ:Code->Bool| .seq _ _=>X|_=>U
def Code.OC:Code->Bool| .cond _ _ _=>X|_=>U
def Code.OB:Code->Bool| .block _ _=>X|_=>U
def Code.OG:Code->Bool| .loop _=>X|_=>U
end Go
namespace Go.bn
section
variable {P:Program}{call:aD}{N:Nat}{kg ir:e2}{iu:List (Nat×e2)}
def aX{c:Code}{k T:e2}(d:c.OJ=X)(h:∀ad H,bC P call N (o c) kg iu ir ad H=k ad H)(e:∀ad H,bC P call N (bd c) k iu ir ad H=T ad H):
  ∀ad H,bC P call N c kg iu ir ad H=T ad H:=by
 cases c<;>first|cases d|skip
 rename_i a b;intro ad H;rw[<-e];show bC P call N a (λad H=>bC P call N b kg iu ir ad H) iu ir ad H=_;rw[show(λad H=>bC P call N b kg iu ir ad H)=k from funext λad=>funext λH=>h ad H];rfl
def d_{c:Code}{A B:e2}(e:c.OC=X)(a:∀ad H,bC P call N (bd c) kg iu ir ad H=A ad H)(d:∀ad H,bC P call N (o c) kg iu ir ad H=B ad H):
  ∀ad H,bC P call N c kg iu ir ad H=a7 (dH ad c.test) (A ad H) (B ad H):=by
 cases c<;>first|cases e|skip
 intro ad H;rw[<-a,<-d];rfl
def dx{c:Code}{T:e2}(d:c.OB=X)(a:∀ad H,bC P call N (bd c) kg ((c.num,kg)::iu) ir ad H=T ad H):∀ad H,bC P call N c kg iu ir ad H=T ad H:=by
 cases c<;>first|cases d|skip
 intro ad H;rw[<-a];rfl
def eP{c:Code}{k:Nat->e2}(e:c.OG=X)(d:∀ad H,k 0 ad H=C)(ar:∀n ad H,bC P call N (bd c) (k n) iu ir ad H=k (n+1) ad H):∀ad H,bC P call N c kg iu ir ad H=k N ad H:=by
 cases c<;>first|cases e|skip
 rename_i b;have key:∀n ad H,qd (λa ad H=>bC P call N b a iu ir ad H) n ad H=k n ad H:=by
  intro n
  induction n with
  |zero=>intro ad H;exact(d ad H).symm
  |succ n h=>
   intro ad H;rw[<-ar n ad H];show bC P call N b (λad H=>qd _ n ad H) iu ir ad H=_;rw[show(λad H=>qd (λa ad H=>bC P call N b a iu ir ad H) n ad H)=k n from funext λad=>funext λH=>h ad H];rfl
 intro ad H;exact key N ad H
def aL(c:Code):∀ad H,bC P call N c kg iu ir ad H=bC P call N c kg iu ir ad H:=λ_ _=>rfl
def j(r:Option aa)(k:aa->O):O:=match r with
 |some v=>k v
 |none=>C
def aO(H:af)(r:O)(k:aa->af->O):O:=match r with
 |some (v,H')=>bif decide (H.next<=H'.next)then k v H' else C
 |none=>C
def bm(H:af)(r:Option af)(k:af->O):O:=aO H (r.bind λH'=>D (.tuple [],H')) λ_ H'=>k H'
def ca(H:af)(r:Option (aa×cb))(k:aa->af->O):O:=match r with
 |some (v,b)=>k v (H.push b)
 |none=>C
def cX(H:af)(cs:List aa)(k:aa->af->O):O:=k (.ptr H.next 0 0) (H.push (.row U cs.length [cs]))
def bI(fn:Func):Code:=match fn.body with
 |some c=>c
 |none=> .skip
def bg(P:Program)(b:Builtin)(ts:List TypeId)(a:List aa)(H:af)(k:aa->O):O:=match cx P .empty b ts a with
 |some v=>k v
 |none=>(cx P H b ts a).bind k
def s7(P:Program)(s d:TypeId)(v:aa)(H:af)(k:aa->O):O:=match oz P s d v with
 |some v=>k v
 |none=>(pQ P H s d v).bind k
def cJ(v:aa)(q:K->O):O:=q (.pure v)
def br(r:Option aa)(q:K->O):O:=r.bind λv=>q (.pure v)
def qr(r:Option aa)(q:K->O):O:=r.bind λv=>q (.read v)
def aM(b:aa)(want:Bool)(H:af)(m:(K->O)->O)(k:aa->af->O):O:=fZ b want m λx=>k x.val (x.heap H)
