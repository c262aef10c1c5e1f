/-
  Texts of one proof, laid together: Pv Pw ShC.
-/
import Derived.Test.YtghmbpmaafnodaaDoorMI
set_option linter.unusedVariables false
set_option linter.unusedSimpArgs false
set_option linter.defProp false
open Option renaming some→D,none→C
open Bool renaming true→X,false→U
open Go.bs.aa renaming int→I,str→Z
open Go.IntKind renaming i64→J
namespace Go.Proofs.YtghmbpmaafnodaaDoor
open Go.bs
def lk(w:aC):Prop:=∀b r,w=b::r->c8 b=U/\dh b=U
def qH(l:List bF):Prop:=∀r,lk (flat r)->lk (flat (l++r))
def hy(l:List bF):Prop:=∀t∈bz l,t.pos=0
structure dD(l:List bF):Prop where
 z:hy l
 k:∀r,iz r->lk (flat r)->iz (l++r)
structure gB(l:List bF):Prop where
 z:hy l
 k:∀r,iz r->iz (l++r)
def gB.xe{l:List bF}(h:gB l):dD l:=⟨h.z,λr a _=>h.k r a⟩
def hy.app{l m:List bF}(h:hy l)(aZ:hy m):hy (l++m):=by
 intro t a;rw[hL,List.mem_append]at a;exact a.elim (h t) (aZ t)
def hy.tok{t:Tok}{l:List bF}(h:t.pos=0)(aZ:hy l):hy (.t t::l):=by
 intro u hu;rw[bz,List.mem_cons]at hu;rcases hu with rfl|hu
 ·exact h
 ·exact aZ u hu
def dD.nil:dD []:=⟨λt a=>(List.not_mem_nil a).elim,λr h _=>h⟩
def gB.nil:gB []:=⟨λt a=>(List.not_mem_nil a).elim,λr h=>h⟩
def dD.app{l m:List bF}(h:dD l)(aZ:dD m)(c:qH m):dD (l++m):=
 ⟨h.z.app aZ.z,λr d a=>by rw[List.append_assoc];exact h.k _ (aZ.k r d a) (c r a)⟩
def gB.app{l m:List bF}(h:gB l)(aZ:gB m):gB (l++m):=
 ⟨h.z.app aZ.z,λr a=>by rw[List.append_assoc];exact h.k _ (aZ.k r a)⟩
def gB.Ie{l m:List bF}(h:gB l)(aZ:dD m):dD (l++m):=
 ⟨h.z.app aZ.z,λr c a=>by rw[List.append_assoc];exact h.k _ (aZ.k r c a)⟩
def gB.b{s:aC}{l:List bF}(ax:s.all hC=X)(h:gB l):gB (.b s::l):=⟨h.z,λr a=>⟨ax,h.k r a⟩⟩
def dD.b{s:aC}{l:List bF}(ax:s.all hC=X)(h:dD l):dD (.b s::l):=⟨h.z,λr c a=>⟨ax,h.k r c a⟩⟩
def jU(x:aC):Prop:=h6 ⟨4,x,0,0⟩/\∀b,ka ⟨4,x,0,0⟩ b=X
def DL{t:Tok}(h:∀b,ka t b=X):∀w,lF t w=X
 |[]=>rfl
 |b::_=>h b
def gB.bB{x:aC}{l:List bF}(a:jU x)(h:gB l):gB (bB x::l):=⟨hy.tok rfl h.z,λr c=>⟨a.1,DL a.2 _,h.k r c⟩⟩
def dD.bB{x:aC}{l:List bF}(a:jU x)(h:dD l):dD (bB x::l):=⟨hy.tok rfl h.z,λr d c=>⟨a.1,DL a.2 _,h.k r d c⟩⟩
def yx(x:aC):Prop:=h6 ⟨4,x,0,0⟩/\ka ⟨4,x,0,0⟩ 32=X
def dD.op{x:aC}{l:List bF}(a:yx x)(h:dD l):dD (Go.Proofs.YtghmbpmaafnodaaDoor.bB x::cA::l):=⟨hy.tok rfl h.z,λr d c=>⟨a.1,a.2,⟨bf,h.k r d c⟩⟩⟩
def DM{t:Tok}(d:(t.kind==4)=U){w:aC}(h:lk w):lF t w=true:=by
 cases w with
 |nil=>rfl
 |cons b r=>
  obtain⟨a,c⟩:=h b r rfl;rw[lF,ka,d,aR,a,c];rfl
def dD.tok{t:Tok}{l:List bF}(j:h6 t)(d:(t.kind==4)=U)(c:t.pos=0)(h:dD l)(e:qH l):dD (.t t::l):=⟨hy.tok c h.z,λr i a=>⟨j,DM d (e r a),h.k r i a⟩⟩
def gB.tok{t:Tok}{l:List bF}(i:h6 t)(c:(t.kind==4)=U)(a:t.pos=0)(h:gB l)(d:∀r,lk (flat (l++r))):gB (.t t::l):=⟨hy.tok a h.z,λr e=>⟨i,DM c (d r),h.k r e⟩⟩
def sl{x:aC}(h:dP x=X):h6 ⟨1,x,0,0⟩:= .inl ⟨rfl,rfl,h⟩
def l6{x:aC}(h:fm x=X):h6 ⟨3,x,0,0⟩:= .inr (.inl ⟨rfl,rfl,h⟩)
def qH.nil:qH []:=λ_ h=>h
def wX{c:UInt8}{w:aC}(h:c8 c=U/\dh c=U):lk (c::w):=by
 intro b r e;cases e;exact h
def jC{c:UInt8}{x:aC}(h:c8 c=U/\dh c=U)(l r:List bF):lk (flat ((bB (c::x)::l)++r)):=wX h
def tp(l r:List bF):lk (flat ((cA::l)++r)):=wX bf
def np{c:UInt8}(h:hE c gG=X):h6 ⟨4,[c],0,0⟩:= .inr (.inr (.inr ⟨rfl,rfl,.inr ⟨c,rfl,h⟩⟩))
def sd{x:aC}(h:e4 x hM=X):h6 ⟨4,x,0,0⟩:= .inr (.inr (.inr ⟨rfl,rfl,.inl h⟩))
def oT{c:UInt8}(h:hE c gG=X)(aZ:(c==60||(c==61||(c==33||(c==38||(c==124||c==47)))))=U):jU [c]:=by
 refine⟨np h,λb=> ?_⟩;simp only[Bool.or_eq_false_iff,beq_eq_false_iff_ne]at aZ;obtain⟨aT,a2,a3,a4,a5,a⟩:=aZ;have an:∀y:UInt8,y≠c->∀z:UInt8,([y,z]==[c,b])=false:=λy d z=>by simp[d]
 simp only[ka,beq_self_eq_true,aW,List.length_cons,List.length_nil,List.cons_append,List.nil_append,e4,hM];rw[an 60 (Ne.symm aT),an 61 (Ne.symm a2),an 33 (Ne.symm a3),an 38 (Ne.symm a4),an 124 (Ne.symm a5)];simp[a]
def sa:jU [40]:=oT bf bf
def sb:jU [41]:=oT bf bf
def xJ:jU [91]:=oT bf bf
def sc:jU [93]:=oT bf bf
def OR:jU [44]:=oT bf bf
def OT:jU [46]:=oT bf bf
def OS:jU [45]:=oT bf bf
def OU{k:Int}(h:14<=k)(aZ:k<=24):yx (ez k):=by
 have a:k=14\/k=15\/k=16\/k=17\/k=18\/k=19\/k=20\/k=21\/k=22\/k=23\/k=24:=af;rcases a with rfl|rfl|rfl|rfl|rfl|rfl|rfl|rfl|rfl|rfl|rfl
 ·exact⟨np (c:=43) bf,by decide+kernel⟩
 ·exact⟨np (c:=45) bf,by decide+kernel⟩
 ·exact⟨np (c:=42) bf,by decide+kernel⟩
 ·exact⟨np (c:=47) bf,by decide+kernel⟩
 ·exact⟨np (c:=37) bf,by decide+kernel⟩
 ·exact⟨np (c:=60) bf,by decide+kernel⟩
 ·exact⟨sd (x:=[60,61]) bf,by decide+kernel⟩
 ·exact⟨sd (x:=[61,61]) bf,by decide+kernel⟩
 ·exact⟨sd (x:=[33,61]) bf,by decide+kernel⟩
 ·exact⟨sd (x:=[38,38]) bf,by decide+kernel⟩
 ·exact⟨sd (x:=[124,124]) bf,by decide+kernel⟩
def tB{x:aC}(a:jU x)(n:Nat):gB (rep n (bB x)):=by
 unfold rep
 induction n with
 |zero=>exact .nil
 |succ n c=>rw[List.replicate_succ];exact .bB a c
def wY{c:UInt8}(h:c8 c=U/\dh c=U)(n:Nat):qH (rep n (bB [c])):=by
 intro r a;unfold rep;cases n with
 |zero=>exact a
 |succ n=>rw[List.replicate_succ];exact wX h
def Eg{x:aC}{z:Int}(h:ix x z):dD (cj x z):=by
 unfold cj;refine(tB xJ _).Ie ?_;obtain⟨-,-,a⟩:=h;unfold oX;rcases a with a|rfl|rfl
 ·rw[DB a,aR];exact .tok (sl a) rfl rfl (tB sc _).xe (wY bf _)
 ·rw[show fm [105,110,116]=X from bf,aW];exact .tok (l6 bf) rfl rfl (tB sc _).xe (wY bf _)
 ·rw[show fm [98,111,111,108]=X from bf,aW];exact .tok (l6 bf) rfl rfl (tB sc _).xe (wY bf _)
def nw(l:List bF):Prop:=∀r,∃b w,flat (l++r)=b::w/\b≠61
def nw.app{l:List bF}(h:nw l)(m:List bF):nw (l++m):=λr=>by rw[List.append_assoc];exact h _
def K1{x:aC}(h:dP x=X):∃c r,x=c::r/\c8 c=true:=by
 unfold dP at h;simp only[Bool.and_eq_true,decide_eq_true_eq]at h;cases x with
 |nil=>simp at h
 |cons c r=>exact⟨c,r,rfl,h.2.2.1⟩
def A6{x:aC}(h:dP x=X)(l:List bF):nw (cp x::l):=by
 obtain⟨c,r,rfl,a⟩:=K1 h;intro q;exact⟨c,_,rfl,λe=>by subst e;exact absurd a bf⟩
def sS{m:Nat}{e:aA}(h:nw (bd e)):nw (bV m e):=by
 by_cases a:e.b0<m
 ·rw[n6 a];exactλr=>⟨40,_,rfl,bf⟩
 ·rw[kN a];exact h
def wW:c8 40=U/\dh 40=false:=bf
def tn:c8 41=U/\dh 41=false:=bf
def K3:c8 44=U/\dh 44=false:=bf
def K4:c8 46=U/\dh 46=false:=bf
def K5:c8 91=U/\dh 91=false:=bf
def DC:c8 93=U/\dh 93=false:=bf
def rP{m:Nat}{e:aA}(h:dD (bd e)):dD (bV m e):=by
 by_cases a:e.b0<m
 ·rw[n6 a];exact .bB sa (h.app (.bB sb .nil) λr _=>jC tn _ _)
 ·rw[kN a];exact h
def Ef:∀l:List aA,(∀e∈l,dD (bd e))->dD (dI (cq l))
 |[],_=> .nil
 |[e],h=>by rw[cq,cq,dI];exact h e (List.mem_cons_self)
 |e::f::es,h=>by
  have c:=Ef (f::es) λx a=>h x (List.mem_cons_of_mem _ a)
  rw[cq,show cq (f::es)=(f.b0,bd f)::cq es from rfl,dI]
  ·rw[<-show cq (f::es)=(f.b0,bd f)::cq es from rfl];exact(h e (List.mem_cons_self)).app (.bB OR (.b bf c)) λr _=>jC K3 _ _
  ·simp
def Lr{d m:Nat}{e:aA}(h:ct d m e):dD (bd e)/\nw (bd e):=by
 induction h with
 |par _ _ _ o=>exact o
 | @int d m n p _ v y=>
  rw[dH];refine⟨dD.tok (.inr (.inr (.inl ⟨rfl,rfl,v,y⟩))) rfl rfl .nil .nil,λr=> ?_⟩;obtain⟨c,q,e,-⟩:=vz 20 n.toNat [] (by rw[rQ];omega) af;have E:dh c=true:=vy 20 n.toNat [] (λ_ h=>(List.not_mem_nil h).elim) c (by rw[e];exact List.mem_cons_self);refine⟨c,q++flat r,?_,λe=>by subst e;exact absurd E bf⟩;show fY 20 n.toNat []++flat r=_;rw[e];rfl
 | @bool d m n p _ H=>
  rw[dH];rcases H with rfl|rfl
  ·exact⟨dD.tok (l6 (x:=[102,97,108,115,101]) bf) rfl rfl .nil .nil,λr=>⟨102,_,rfl,bf⟩⟩
  ·exact⟨dD.tok (l6 (x:=[116,114,117,101]) bf) rfl rfl .nil .nil,λr=>⟨116,_,rfl,bf⟩⟩
 | @null d m x z p _ j=>
  rw[dH];exact⟨dD.tok (l6 bf) rfl rfl (dD.b bf (Eg j)) λr _=>tp _ _,λr=>⟨110,_,rfl,bf⟩⟩
 | @var d m x p _ j=>
  rw[dH];exact⟨dD.tok (sl j) rfl rfl .nil .nil,A6 j []⟩
 | @field d m x p e _ j _ o=>
  rw[mE];exact⟨(rP o.1).app (.bB OT (.tok (sl j) rfl rfl .nil .nil)) λr _=>jC K4 _ _,(sS o.2).app _⟩
 | @item d m p e i _ _ _ ih1 ih2=>
  rw[mF];exact⟨(rP ih1.1).app (.bB xJ (ih2.1.app (.bB sc .nil) λr _=>jC DC _ _)) λr _=>jC K5 _ _,(sS ih1.2).app _⟩
 | @call d m x p l _ j _ o=>
  rw[mD];exact⟨.tok (sl j) rfl rfl (.bB sa ((Ef l λe he=>(o e he).1).app (.bB sb .nil) λr _=>jC tn _ _)) λr _=>jC wW _ _,A6 j _⟩
 | @new d m x p _ j=>
  rw[dH];exact⟨dD.tok (l6 bf) rfl rfl (dD.b bf (dD.tok (sl j) rfl rfl .nil .nil)) λr _=>tp _ _,λr=>⟨110,_,rfl,bf⟩⟩
 | @make d m x z p e _ j _ o=>
  rw[mH];exact⟨.tok (l6 bf) rfl rfl (.b bf (.bB xJ ((Eg j).app (.bB sc (.bB sa (o.1.app (.bB sb .nil) λr _=>jC tn _ _))) λr _=>jC DC _ _))) λr _=>tp _ _,λr=>⟨110,_,rfl,bf⟩⟩
 | @len d m p e _ _ o=>
  rw[mG];exact⟨.tok (l6 bf) rfl rfl (.bB sa (o.1.app (.bB sb .nil) λr _=>jC tn _ _)) λr _=>jC wW _ _,λr=>⟨108,_,rfl,bf⟩⟩
 | @read d m p _=>
  rw[dH];exact⟨dD.tok (l6 bf) rfl rfl (dD.bB sa (dD.bB sb .nil)) λr _=>jC wW _ _,λr=>⟨114,_,rfl,bf⟩⟩
 | @sign d m k p e _ s _ o=>
  rw[kP s];have aI:=rP (m:=6) o.1;have F:=sS (m:=6) o.2;rcases s with rfl|rfl
  ·exact⟨dD.bB OS aI,λr=>⟨45,_,rfl,bf⟩⟩
  ·refine⟨⟨hy.tok rfl aI.z,λr K A=>⟨np (c:=33) bf,?_,aI.k r K A⟩⟩,λr=>⟨33,_,rfl,bf⟩⟩;obtain⟨b,w,e,B⟩:=F r;show lF ⟨4,[33],0,0⟩ (flat (bV 6 _++r))=X;rw[e];show ka ⟨4,[33],0,0⟩ b=X;have an:([33,61]==[33,b])=false:=by simp[Ne.symm B]
   simp only[ka,beq_self_eq_true,aW,List.length_cons,List.length_nil,List.cons_append,List.nil_append,e4,hM,an];simp
 | @bin d m k p a b _ s G _ _ u L=>
  rw[mC s];exact⟨(rP u.1).app (.b bf (.op (OU s G) (rP L.1))) λr _=>tp _ _,(sS u.2).app _⟩
def tC:∀(a:List bF) (p:Nat),hy a->e3 (mJ a p)=bz a++[⟨0,[],0,0⟩]
 |[],_,_=>rfl
 | .b s::r,p,h=>tC r (p+s.length) h
 | .t t::r,p,h=>by
  have d:=h t (by rw[bz];exact List.mem_cons_self);have c:=tC r (p+(g_ t).length) λu hu=>h u (by rw[bz];exact List.mem_cons_of_mem _ hu)
  rw[mJ,bz];unfold e3 at c ⊢;rw[List.map_cons,c];obtain⟨k,x,n,q⟩:=t;have:q=0:=d;subst this;rfl
def yA(l m:List Tok):∀(p:List Tok),dt (p++(l++m)) p.length l:=by
 induction l with
 |nil=>intro p;trivial
 |cons t l a=>
  intro p;refine⟨?_,?_⟩
  ·unfold al;rw[if_neg (by simp only[List.length_append,List.length_cons];omega)];rw[show((p.length:Int)).toNat=p.length by omega,List.getElem?_append_right (bj _),Nat.sub_self];rfl
  ·have:=a (p++[t]);rw[List.append_assoc,List.length_append]at this;rw[show((p.length:Int)+1)=((p.length+[t].length:Nat):Int) by simp];exact this
def l8(l:List Fn):Nat:=(l.map λf=>dC f.body).sum
def PS(l:List Fn)(f:Fn):l8 (l++[f])=l8 l+dC f.body:=by simp[l8]
structure yi(a:Int)(g:dv):Prop where
 og:∀x∈g.dk,o6 x
 dr:∀x∈g.globals,hg x
 cC:∀x∈g.funcs,o5 x
 gT:g.dk.length<=12
 nX:g.globals.length<=8
 pI:g.funcs.length<=16
 w:(l8 g.funcs:Int)<=400*a
section
variable {T:List Tok}{E:Int}{s s' s2:au}
def xb(aK:Good T E)(e:cX E s)(h:(dQ T s).2.aG=0):hg (dQ T s).1/\bY E s (dQ T s).2 1:=by
 obtain⟨a,c,d⟩:=GO aK e h;exact⟨⟨a,c⟩,d.less af⟩
def qQ{α:Type}{p:α->Prop}{l:List α}{x:α}(h:∀y∈l,p y)(c:p x):∀y∈l++[x],p y:=by
 intro y a;rcases List.mem_append.1 a with a|a
 ·exact h y a
 ·simp only[List.mem_cons,List.not_mem_nil,or_false]at a;subst a;exact c
def Bg(aK:Good T E):∀(n:Nat) (l:List ch) (s:au) (p:List ch×au),cX E s->(s.aG=0->l.length<=8/\∀x∈l,hg x)->ps T n l s=D p->p.2.aG=0->bY E s p.2 0/\p.1.length<=8/\∀x∈p.1,hg x
 |0,_,_,_,_,_,h,_=>by cases h
 |n+1,l,s,p,d,he,h,aI=>by
  rw[ps]at h;cases e:(s.aG==0&& !aY T s [125])with
  |false=>
   rw[e,aR]at h;cases h;exact⟨.refl (d aI) aI,he aI⟩
  |true=>
   rw[e,aW]at h;simp only[Bool.and_eq_true,beq_iff_eq]at e;obtain⟨an,aE⟩:=he e.1;cases i:((al T s.at_).kind==1&&l.length==8)with
   |true=>
    rw[i,aW]at h;cases h;exact absurd aI (fa bf)
   |false=>
    rw[i,aR]at h;have o:=λa=>xb aK d a
    have ip:cX E (dQ T s).2:=bY.to d (λc=>(o c).2) af;have t1:=λa=>eQ aK (x:=[59]) ip a
    have it:cX E (bo T [59] (dQ T s).2):=bY.to ip (λc=>(t1 c).2.2) af;obtain⟨a6,y,z⟩:=Bg aK n _ _ p it (λa=>by
     obtain⟨-,-,dZ⟩:=t1 a;obtain⟨A,F⟩:=o dZ.f;have w:(al T s.at_).kind=1:=by
      have k:(bA T s).2.aG=0:=by
       have u:(et T s).2.aG=0:=dZ.f;have q:=λa=>kM aK d a
       have j:=λa=>eQ aK (s:=(bA T s).2) (x:=[58]) (bY.to d (λc=>(q c).2) af) a
       have b3:=pM aK (s:=bo T [58] (bA T s).2) (bY.to d (λc=>(q (j c).2.2.f).2.trans (j c).2.2) af) u;exact(j b3.2.f).2.2.f
      unfold bA at k;cases m:(s.aG==0&&(al T s.at_).kind==1)with
      |true=>simp only[Bool.and_eq_true,beq_iff_eq]at m;exact m.2
      |false=>rw[m,aR]at k;exact absurd k (fa bf)
     have B:l.length≠8:=by
      intro v;rw[w,v]at i;simp at i
     exact⟨by rw[List.length_append,List.length_singleton];omega,qQ aE A⟩) h aI
    obtain⟨-,-,dZ⟩:=t1 a6.f;exact⟨(((o dZ.f).2.trans dZ).trans a6).less af,y,z⟩
def IT(aK:Good T E)(c:cX E s)(h:(mm T s).aG=0):bY E s (mm T s) 1:=by
 unfold mm at h ⊢;cases a:aY T (bo T [44] s) [41]with
 |true=>rw[a,aW]at h;exact absurd h (fa bf)
 |false=>rw[a,aR]at h;rw[aR];exact(eQ aK c h).2.2
def D_(aK:Good T E):∀(n:Nat) (l:List ch) (s:au) (p:List ch×au),cX E s->(s.aG=0->l.length<=6/\∀x∈l,hg x)->pR T n l s=D p->p.2.aG=0->bY E s p.2 0/\p.1.length<=6/\∀x∈p.1,hg x
 |0,_,_,_,_,_,h,_=>by cases h
 |n+1,l,s,p,c,he,h,aI=>by
  rw[pR]at h;cases i:(s.aG==0&& !aY T s [41])with
  |false=>
   rw[i,aR]at h;cases h;exact⟨.refl (c aI) aI,he aI⟩
  |true=>
   rw[i,aW]at h;simp only[Bool.and_eq_true,beq_iff_eq]at i;obtain⟨an,aE⟩:=he i.1;cases j:((al T s.at_).kind==1&&l.length==6)with
   |true=>
    rw[j,aW]at h;cases h;exact absurd aI (fa bf)
   |false=>
    rw[j,aR]at h;have q:=λa=>xb aK c a
    have ip:cX E (dQ T s).2:=bY.to c (λe=>(q e).2) af;have m:∀a:(bif aY T (dQ T s).2 [41]then(dQ T s).2 else mm T (dQ T s).2).aG=0,bY E (dQ T s).2 (bif aY T (dQ T s).2 [41]then(dQ T s).2 else mm T (dQ T s).2) 0:=by
     intro a;cases d:aY T (dQ T s).2 [41]with
     |true=>rw[d,aW]at a;rw[aW];exact .refl (ip a) a
     |false=>rw[d,aR]at a;rw[aR];exact(IT aK ip a).less af
    have it:cX E (bif aY T (dQ T s).2 [41]then(dQ T s).2 else mm T (dQ T s).2):=bY.to ip m af;obtain⟨a6,z,A⟩:=D_ aK n _ _ p it (λa=>by
     have dZ:=m a;obtain⟨B,G⟩:=q dZ.f;have y:(al T s.at_).kind=1:=by
      have o:(bA T s).2.aG=0:=by
       have v:(et T s).2.aG=0:=dZ.f;have u:=λa=>kM aK c a
       have k:=λa=>eQ aK (s:=(bA T s).2) (x:=[58]) (bY.to c (λe=>(u e).2) af) a
       have b3:=pM aK (s:=bo T [58] (bA T s).2) (bY.to c (λe=>(u (k e).2.2.f).2.trans (k e).2.2) af) v;exact(k b3.2.f).2.2.f
      unfold bA at o;cases d:(s.aG==0&&(al T s.at_).kind==1)with
      |true=>simp only[Bool.and_eq_true,beq_iff_eq]at d;exact d.2
      |false=>rw[d,aR]at o;exact absurd o (fa bf)
     have F:l.length≠6:=by
      intro w;rw[y,w]at j;simp at j
     exact⟨by rw[List.length_append,List.length_singleton];omega,qQ aE B⟩) h aI
    have dZ:=m a6.f;exact⟨(((q dZ.f).2.trans dZ).trans a6).less af,z,A⟩
def LI(aK:Good T E){n:Nat}{p:fo×au}(e:cX E s)(h:ob T n s=D p)(aI:p.2.aG=0):bY E s p.2 1/\o6 p.1:=by
 unfold ob at h;obtain⟨q,g1,g2⟩:=fD h;cases g2;have i:=λa=>kM aK e a
 have i1:cX E (bA T s).2:=bY.to e (λc=>(i c).2) af;have t1:=λa=>eQ aK (x:=[123]) i1 a
 have i2:cX E (bo T [123] (bA T s).2):=bY.to i1 (λc=>(t1 c).2.2) af;have f1:=λa=>Bg aK n [] _ q i2 (λ_=>⟨by simp,λx l=>by cases l⟩) g1 a
 have i3:cX E q.2:=bY.to i2 (λc=>(f1 c).1) af;obtain⟨-,-,z⟩:=eQ aK (x:=[125]) i3 aI;obtain⟨aT,a2,a3⟩:=f1 z.f;obtain⟨-,-,d⟩:=t1 aT.f;obtain⟨j,k⟩:=i d.f;exact⟨((((k.trans d).trans aT).trans z)).less af,⟨j,a2,a3⟩⟩
def LO(aK:Good T E)(d:cX E s)(h:(gW T s).2.aG=0):bY E s (gW T s).2 0/\(((gW T s).1.1=X/\ix (gW T s).1.2.1 (gW T s).1.2.2)\/((gW T s).1.1=U/\(gW T s).1.2.1=[]/\(gW T s).1.2.2=0)):=by
 unfold gW at h ⊢;cases c:aY T s [58]with
 |true=>
  rw[c,aW]at h;rw[aW];have g:=fF aK (d (er c).1) c;obtain⟨a,b⟩:=pM aK (g.fZ d af) h;exact⟨(g.trans b).less af,.inl ⟨rfl,a⟩⟩
 |false=>
  rw[c,aR]at h;rw[aR];exact⟨.refl (d h) h,.inr ⟨rfl,rfl,rfl⟩⟩
def JI(aK:Good T E)(y:nv T){n:Nat}{p:Fn×au}(o:cX E s)(h:nS T n s=D p)(aI:p.2.aG=0):bY E s p.2 1/\o5 p.1/\(dC p.1.body:Int)<=400*(p.2.at_-s.at_):=by
 unfold nS at h;obtain⟨q,g1,g2⟩:=fD h;obtain⟨b,g3,g4⟩:=fD g2;cases g4;have u:=λe=>kM aK o e
 have i1:cX E (bA T s).2:=bY.to o (λi=>(u i).2) af;have t1:=λe=>eQ aK (x:=[40]) i1 e
 have i2:cX E (bo T [40] (bA T s).2):=bY.to i1 (λi=>(t1 i).2.2) af;have f1:=λe=>D_ aK n [] _ q i2 (λ_=>⟨by simp,λx z=>by cases z⟩) g1 e
 have i3:cX E q.2:=bY.to i2 (λi=>(f1 i).1) af;have t2:=λe=>eQ aK (x:=[41]) i3 e
 have i4:cX E (bo T [41] q.2):=bY.to i3 (λi=>(t2 i).2.2) af;have v:=λe=>LO aK i4 e
 have i5:cX E (gW T (bo T [41] q.2)).2:=bY.to i4 (λi=>(v i).1) af;obtain⟨k,F,d,G,A⟩:=(Ei aK y n).block _ b i5 g3 aI;obtain⟨m1,m2⟩:=v k.f;obtain⟨-,-,l⟩:=t2 m1.f;obtain⟨aT,a2,a3⟩:=f1 l.f;obtain⟨-,-,j⟩:=t1 aT.f;obtain⟨w,m⟩:=u j.f;have B:=(i5 k.f).c;have av:=m.a;have H:=j.a;have K:=aT.a;have L:=l.a;have M:=m1.a;exact⟨(((((m.trans j).trans aT).trans l).trans m1).trans k).less af,⟨w,a2,a3,m2,d,af,A⟩,by simp only;omega⟩
def pT(aK:Good T E)(m:nv T)(N:Nat):∀(n:Nat) (g:dv) (s:au) (p:dv×au),cX E s->(s.aG=0->yi s.at_ g)->hG T N n g s=D p->p.2.aG=0->yi p.2.at_ p.1/\p.2.at_<=E
 |0,_,_,_,_,_,h,_=>by cases h
 |n+1,g,s,p,i,he,h,aI=>by
  rw[hG]at h;cases k:(s.aG==0&&(al T s.at_).kind != 0)with
  |false=>
   rw[k,aR]at h;cases h;exact⟨he aI,(i aI).b⟩
  |true=>
   rw[k,aW]at h;simp only[Bool.and_eq_true,beq_iff_eq]at k;have G:=he k.1;cases hm:((isRec T s&&g.dk.length==12)||((j6 T s&&g.globals.length==8)||(isFun T s&&g.funcs.length==16)))with
   |true=>
    rw[hm,aW]at h;exact pT aK m N n g _ p (λd=>absurd d (fa bf)) (λd=>absurd d (fa bf)) h aI
   |false=>
    rw[hm,aR]at h;simp only[Bool.or_eq_false_iff]at hm;cases u:isRec T s with
    |true=>
     rw[u,aW]at h;obtain⟨q,g1,g2⟩:=fD h;have e:=fF aK (i k.1) u;have j:=λd=>LI aK (e.fZ i af) g1 d
     have A:=e.a;have H:g.dk.length≠12:=by
      intro o;have:=hm.1;rw[u,o]at this;simp at this
     have:=G.gT;refine pT aK m N n _ q.2 p (bY.to (e.fZ i af) (λl=>(j l).1) af) (λd=> ?_) g2 aI;obtain⟨a,b⟩:=j d;have:=a.a;have:=G.w;exact⟨qQ G.og b,G.dr,G.cC,by rw[List.length_append,List.length_singleton];omega,G.nX,G.pI,by simp only;omega⟩
    |false=>
     rw[u,aR]at h;cases v:j6 T s with
     |true=>
      rw[v,aW]at h;have e:=fF aK (i k.1) v;have A:=e.a;have B:=e.fZ i af;have j:=λd=>xb aK B d
      have F:cX E (dQ T (aF s)).2:=bY.to B (λl=>(j l).2) af;have t1:=λd=>eQ aK (x:=[59]) F d
      have L:g.globals.length≠8:=by
       intro o;have:=hm.2.1;rw[v,o]at this;simp at this
      have:=G.nX;refine pT aK m N n _ _ p (bY.to F (λl=>(t1 l).2.2) af) (λd=> ?_) h aI;obtain⟨-,-,z⟩:=t1 d;obtain⟨a,b⟩:=j z.f;have:=z.a;have:=b.a;have:=G.w;exact⟨G.og,qQ G.dr a,G.cC,G.gT,by rw[List.length_append,List.length_singleton];omega,G.pI,by simp only;omega⟩
     |false=>
      rw[v,aR]at h;cases y:isFun T s with
      |true=>
       rw[y,aW]at h;obtain⟨q,g1,g2⟩:=fD h;have e:=fF aK (i k.1) y;have j:=λd=>JI aK m (e.fZ i af) g1 d
       have A:=e.a;have K:g.funcs.length≠16:=by
        intro o;have:=hm.2.2;rw[y,o]at this;simp at this
       have:=G.pI;refine pT aK m N n _ q.2 p (bY.to (e.fZ i af) (λl=>(j l).1) af) (λd=> ?_) g2 aI;obtain⟨a,b,c⟩:=j d;have:=a.a;have:=G.w;exact⟨G.og,G.dr,qQ G.cC b,G.gT,G.nX,by rw[List.length_append,List.length_singleton];omega,by simp only;rw[PS];omega⟩
      |false=>
       rw[y,aR]at h;exact pT aK m N n g _ p (λd=>absurd d (fa bf)) (λd=>absurd d (fa bf)) h aI
end
def dj(x:aC)(r:List bF):(flat (bB x::r)).length=x.length+(flat r).length:=by rw[flat,List.length_append];rfl
def hU(x:aC)(r:List bF):(flat (wd x::r)).length=x.length+(flat r).length:=by rw[flat,List.length_append];rfl
def mz(x:aC)(r:List bF):(flat (cp x::r)).length=x.length+(flat r).length:=by rw[flat,List.length_append];rfl
def iF(x:aC)(r:List bF):(flat (.b x::r)).length=x.length+(flat r).length:=by rw[flat,List.length_append];rfl
def eP(r:List bF):(flat (cA::r)).length=1+(flat r).length:=iF [32] r
def jB(r:List bF):(flat (nl::r)).length=1+(flat r).length:=iF [10] r
def c3(a b:List bF):(flat (a++b)).length=(flat a).length+(flat b).length:=by rw[db,List.length_append]
def eW:(flat []).length=0:=rfl
def wG(x:aC):∀n,(flat (rep n (bB x))).length=n*x.length
 |0=>by simp[rep,flat]
 |n+1=>by have:=wG x n;unfold rep at this ⊢;rw[List.replicate_succ,dj,this,Nat.succ_mul];omega
def jd(x:aC)(z:Int):(flat (cj x z)).length=2*z.toNat+x.length:=by
 have e:(flat (oX x::rep z.toNat (bB [93]))).length=x.length+(flat (rep z.toNat (bB [93]))).length:=by
  unfold oX;cases fm x
  ·exact mz _ _
  ·exact hU _ _
 unfold cj;rw[c3,e,wG,wG];simp only[List.length_cons,List.length_nil];omega
def wI{k:Int}(h:14<=k)(aZ:k<=24):(ez k).length<=2:=by
 have a:k=14\/k=15\/k=16\/k=17\/k=18\/k=19\/k=20\/k=21\/k=22\/k=23\/k=24:=af;rcases a with rfl|rfl|rfl|rfl|rfl|rfl|rfl|rfl|rfl|rfl|rfl<;>decide
def rn(m:Nat)(e:aA):(flat (bV m e)).length<=(flat (bd e)).length+2:=by
 by_cases h:e.b0<m
 ·rw[n6 h,dj,c3,dj,eW];simp only[List.length_cons,List.length_nil];omega
 ·rw[kN h];omega
def CO:∀l:List aA,(∀e∈l,(flat (bd e)).length+4<=cK e)->(flat (dI (cq l))).length<=b7 l
 |[],_=>by simp[cq,dI,flat,b7]
 |[e],h=>by rw[n7];have:=h e (by simp);simp only[dI,b7];omega
 |e::f::r,h=>by
  have i:=h e (by simp);have c:=CO (f::r) λx d=>h x (List.mem_cons_of_mem _ d)
  rw[cq]at c;rw[cq,cq,dI,c3,dj,eP,b7]
  ·simp only[List.length_cons,List.length_nil];omega
  ·intro a;cases a
def KB{n p:Int}:(flat [.t ⟨2,[],n,p⟩]).length<=20:=by
 have:=zR 20 n.toNat [];simpa [flat,bF.oW,g_]using this
def pE{d m:Nat}{e:aA}(h:ct d m e):(flat (bd e)).length+4<=cK e:=by
 induction h with
 |par _ _ _ c=>exact c
 | @int d m n p _ _ _=>
  rw[dH,cK,b7];have:(flat (kO {kind:=1,n:=n,pos:=p} (cq []))).length<=20:=KB (p:=0);simp only[List.length_nil];omega
 | @bool d m n p _ h=>
  rw[dH,cK,b7];have:(flat (kO {kind:=2,n:=n,pos:=p} (cq []))).length<=5:=by
   rcases h with rfl|rfl
   ·exact bj 5
   ·exact(by decide:4<=5)
  simp only[List.length_nil];omega
 | @null d m x z p _ h=>
  rw[dH,cK,b7];have:(flat (kO {kind:=3,cf:=x,cS:=z,pos:=p} (cq []))).length=5+(2*z.toNat+x.length):=by
   show(flat (wd [110,117,108,108]::cA::cj x z)).length=_;rw[hU,eP,jd];simp only[List.length_cons,List.length_nil];omega
  have:=h.2.1;simp only[List.length_nil];omega
 | @var d m x p _ h=>
  rw[dH,cK,b7];have:(flat (kO {kind:=4,name:=x,pos:=p} (cq []))).length=x.length:=by
   show(flat [cp x]).length=_;rw[mz,eW];omega
  simp only[List.length_nil];omega
 | @field d m x p e _ _ _ c=>
  rw[mE,cK,b7,b7,c3,dj,mz,eW];have:=rn 7 e;simp only[List.length_cons,List.length_nil];omega
 | @item d m p e i _ _ _ ih1 ih2=>
  rw[mF,cK,b7,b7,b7,c3,dj,c3,dj,eW];have:=rn 7 e;simp only[List.length_cons,List.length_nil];omega
 | @call d m x p l _ _ _ c=>
  rw[mD,cK,mz,dj,c3,dj,eW];have:=CO l c;simp only[List.length_cons,List.length_nil];omega
 | @new d m x p _ _=>
  rw[dH,cK,b7];have:(flat (kO {kind:=8,cf:=x,pos:=p} (cq []))).length=4+x.length:=by
   show(flat [wd [110,101,119],cA,cp x]).length=_;rw[hU,eP,mz,eW];simp only[List.length_cons,List.length_nil];omega
  simp only[List.length_nil];omega
 | @make d m x z p e _ h _ c=>
  rw[mH,cK,b7,b7,hU,eP,dj,c3,jd,dj,dj,c3,dj,eW];have:=h.2.1;simp only[List.length_cons,List.length_nil];omega
 | @len d m p e _ _ c=>
  rw[mG,cK,b7,b7,hU,dj,c3,dj,eW];simp only[List.length_cons,List.length_nil];omega
 | @read d m p _=>
  rw[dH,cK,b7];have:(flat (kO {kind:=11,pos:=p} (cq []))).length=6:=rfl;simp only[List.length_nil];omega
 | @sign d m k p e _ h _ c=>
  rw[kP h,cK,b7,b7,dj];have:=rn 6 e;have:(bif k==12 then[45]else[33]:aC).length=1:=by cases k==12<;>rfl
  simp only[List.length_nil];omega
 | @bin d m k p a b _ j o _ _ ih1 ih2=>
  rw[mC j,cK,b7,b7,b7,c3,eP,dj,eP];have:=rn (cm k) a;have:=rn (cm k+1) b;have:=wI j o;simp only[List.length_nil];omega
def pD:∀l:List aA,40*l.length<=b7 l
 |[]=>by simp[b7]
 | .mk a ks::r=>by have:=pD r;rw[b7,cK,List.length_cons];omega
def ho{d:Nat}{e:aA}(h:ct d 0 e):(flat (bd e)).length<=cK e:=by have:=pE h;omega
def hT(deep:Nat):(pad deep).length=2*deep:=by unfold pad;rw[List.length_replicate]
def wJ(x o:aC)(z:Int):(flat (kb x o z)).length=x.length+2+(2*z.toNat+o.length):=by
 unfold kb;rw[mz,dj,eP,jd];simp only[List.length_cons,List.length_nil];omega
def wE(d:aC)(B:List bF):(flat (ib d B)).length=4+(flat B).length+d.length:=by
 unfold ib;rw[eP,dj,jB,c3,iF,dj,eW];simp only[List.length_cons,List.length_nil];omega
def rq{deep:Nat}:∀l:List bM,(∀s∈l,(flat (gV deep s)).length<=eu s)->(flat (cU deep l)).length<=dC l
 |[],_=>by simp[cU,flat,dC]
 |s::r,h=>by
  have c:=h s (by simp);have d:=rq r λx a=>h x (List.mem_cons_of_mem _ a)
  rw[cU,c3,dC];omega
def wH{d:Nat}{s:bM}(h:ey d s):∀deep,deep+d<=51->(flat (gV deep s)).length<=eu s:=by
 induction h with
 | @var d x o z p l i=>
  intro deep a;rw[gV,iF,c3,jB,hT,eW,eu,b7];have:=i.2.1;have:(flat (ic {kind:=1,name:=x,cf:=o,cS:=z,pos:=p} [] (cU (deep+1) []) ([]:List bM).isEmpty (cU (deep+1) []) (pad deep))).length=4+(x.length+2+(2*z.toNat+o.length))+1:=by
   show(flat (wd qw::cA::(kb x o z++[bB [59]]))).length=_;rw[hU,eP,c3,wJ,dj,eW];simp only[List.length_cons,List.length_nil,qw];omega
  simp only[List.length_nil];omega
 | @lets d x o z p e l i hw=>
  intro deep a;rw[gV,iF,c3,jB,hT,eW,eu,b7,b7];have:=i.2.1;have he:=ho hw;have:(flat (ic {kind:=2,name:=x,cf:=o,cS:=z,pos:=p} [e] (cU (deep+1) []) ([]:List bM).isEmpty (cU (deep+1) []) (pad deep))).length=4+(x.length+2+(2*z.toNat+o.length))+3+(flat (bd e)).length+1:=by
   show(flat (wd qu::cA::(kb x o z++cA::bB [61]::cA::(bd e++[bB [59]])))).length=_;rw[hU,eP,c3,wJ,eP,dj,eP,c3,dj,eW];simp only[List.length_cons,List.length_nil,qu];omega
  simp only[List.length_nil];omega
 | @set d x p e l hw=>
  intro deep a;rw[gV,iF,c3,jB,hT,eW,eu,b7,b7];have he:=ho hw;have:(flat (ic {kind:=3,name:=x,pos:=p} [e] (cU (deep+1) []) ([]:List bM).isEmpty (cU (deep+1) []) (pad deep))).length=x.length+3+(flat (bd e)).length+1:=by
   show(flat (cp x::cA::bB [61]::cA::(bd e++[bB [59]]))).length=_;rw[mz,eP,dj,eP,c3,dj,eW];simp only[List.length_cons,List.length_nil];omega
  simp only[List.length_nil];omega
 | @put d p e f q hw k=>
  intro deep a;rw[gV,iF,c3,jB,hT,eW,eu,b7,b7,b7];have he:=ho hw;have k:=ho k;have:(flat (ic {kind:=4,pos:=p} [e,f] (cU (deep+1) []) ([]:List bM).isEmpty (cU (deep+1) []) (pad deep))).length=(flat (bd e)).length+3+(flat (bd f)).length+1:=by
   show(flat (bd e++cA::bB [61]::cA::(bd f++[bB [59]]))).length=_;rw[c3,eP,dj,eP,c3,dj,eW];simp only[List.length_cons,List.length_nil];omega
  simp only[List.length_nil];omega
 | @ifs d p e b c hw n w j u=>
  intro deep a;rw[gV,iF,c3,jB,hT,eW,eu,b7,b7];have he:=ho hw;have m:=rq b (λs ax=>j s ax (deep+1) af);have v:=rq c (λs ax=>u s ax (deep+1) af);have:(flat (ic {kind:=5,pos:=p} [e] (cU (deep+1) b) c.isEmpty (cU (deep+1) c) (pad deep))).length<=3+(flat (bd e)).length+(4+(flat (cU (deep+1) b)).length+2*deep)+(5+(4+(flat (cU (deep+1) c)).length+2*deep)):=by
   show(flat (wd l9::cA::(bd e++(ib (pad deep) (cU (deep+1) b)++bif c.isEmpty then[]else cA::wd sr::ib (pad deep) (cU (deep+1) c))))).length<=_;rw[hU,eP,c3,c3,wE,hT];cases c.isEmpty
   ·rw[aR,eP,hU,wE,hT];simp only[List.length_cons,List.length_nil,l9,sr];omega
   ·rw[aW,eW];simp only[List.length_cons,List.length_nil,l9];omega
  simp only[List.length_nil];omega
 | @«while» d p e b hw n j=>
  intro deep a;rw[gV,iF,c3,jB,hT,eW,eu,b7,b7];have he:=ho hw;have m:=rq b (λs ax=>j s ax (deep+1) af);have:(flat (ic {kind:=6,pos:=p} [e] (cU (deep+1) b) ([]:List bM).isEmpty (cU (deep+1) []) (pad deep))).length=6+(flat (bd e)).length+(4+(flat (cU (deep+1) b)).length+2*deep):=by
   show(flat (wd qx::cA::(bd e++ib (pad deep) (cU (deep+1) b)))).length=_;rw[hU,eP,c3,wE,hT];simp only[List.length_cons,List.length_nil,qx];omega
  simp only[List.length_nil];omega
 | @oc d p=>
  intro deep a;rw[gV,iF,c3,jB,hT,eW,eu,b7];have:(flat (ic {kind:=7,pos:=p} [] (cU (deep+1) []) ([]:List bM).isEmpty (cU (deep+1) []) (pad deep))).length=7:=rfl;simp only[List.length_nil];omega
 | @od d p e hw=>
  intro deep a;rw[gV,iF,c3,jB,hT,eW,eu,b7,b7];have he:=ho hw;have:(flat (ic {kind:=7,pos:=p} [e] (cU (deep+1) []) ([]:List bM).isEmpty (cU (deep+1) []) (pad deep))).length=7+(flat (bd e)).length+1:=by
   show(flat (wd nt::cA::(bd e++[bB [59]]))).length=_;rw[hU,eP,c3,dj,eW];simp only[List.length_cons,List.length_nil,nt];omega
  simp only[List.length_nil];omega
 | @print d p e hw=>
  intro deep a;rw[gV,iF,c3,jB,hT,eW,eu,b7,b7];have he:=ho hw;have:(flat (ic {kind:=8,pos:=p} [e] (cU (deep+1) []) ([]:List bM).isEmpty (cU (deep+1) []) (pad deep))).length=6+(flat (bd e)).length+1:=by
   show(flat (wd qv::cA::(bd e++[bB [59]]))).length=_;rw[hU,eP,c3,dj,eW];simp only[List.length_cons,List.length_nil,qv];omega
  simp only[List.length_nil];omega
 | @call d p e q hw=>
  intro deep a;rw[gV,iF,c3,jB,hT,eW,eu,b7,b7];have he:=ho hw;have:(flat (ic {kind:=9,pos:=p} [e] (cU (deep+1) []) ([]:List bM).isEmpty (cU (deep+1) []) (pad deep))).length=(flat (bd e)).length+1:=by
   show(flat (bd e++[bB [59]])).length=_;rw[c3,dj,eW];simp only[List.length_cons,List.length_nil]
  simp only[List.length_nil];omega
section
set_option maxRecDepth 100000
noncomputable section
def oo(G:az)(ag:aa)(H:ad):O:=cn H [I J 0,Z [],I J 0,I J 0] λe h=>j (b6 ag) λV=>j (aH P 59 V 1) λW=>j (ak P h 3 W) λbq=>j (aq P .lss 3 X bq (I J 0)) λa=>aN a U h (cv ag) λab n=>aN a U n (bu (b6 ab)) λv o=>aN a U o (bu (aH P 59 v 1)) λw i=>aN a U i (qr (ak P i 3 w)) λx p=>aN a U p (cv ag) λy s=>aN a U s (bu (b6 y)) λz u=>aN a U u (bu (aH P 59 z 0)) λA k=>aN a U k (qr (ak P k 36 A)) λbC l=>aN a U l (λq=>ha (b_ P .empty .len [36] [bC]) (b_ P l .len [36] [bC]) q) λB m=>aN a U m (bu (aq P .geq 3 U x B)) λE c=>j (cu a (D (.bool X)) (D E)) λF=>aX (D F) (a8 c (aU P c 61 e (.agg [I J 0,Z [],I J 0,I J 0])) λd=>j (ak P d 61 e) λr=>D (r,d)) (j (b6 ag) λK=>j (aH P 59 K 0) λL=>j (ak P c 36 L) λM=>j (b6 ag) λN=>j (aH P 59 N 1) λQ=>j (ak P c 3 Q) λR=>j (cM P 36 M R) λS=>j (ak P c 61 S) λT=>a8 c (aU P c 61 e T) λd=>j (ak P d 61 e) λr=>D (r,d))
def Ma(N:Nat){ag:aa}{H:ad}{r:aa×ad}(h:oo (aD P ay) ag H=D r):aD P ay 22 [ag] H=D r:=cV N (S:=λG=>oo G ag H) Tryd.func22 (λ_=>by delta oo;kernel_rfl) h
def tR(G:az)(ag:aa)(H:ad):O:=j (b6 ag) λa=>j (aH P 59 a 3) λc=>j (aH P 29 c 0) λbq=>j (ak P H 27 bq) λd=>j (aq P .eql 27 X d (I J 0)) λe=>D (e,H)
def L_(N:Nat){ag:aa}{H:ad}{r:aa×ad}(h:tR (aD P ay) ag H=D r):aD P ay 21 [ag] H=D r:=cV N (S:=λG=>tR G ag H) Tryd.func21 (λ_=>by delta tR;kernel_rfl) h
def ou(G:az)(ag av:aa)(H:ad):O:=aJ H (G 21 [ag] H) λl a=>aX (D l) (aJ a (G 22 [ag] a) λm c=>j (cL P 61 m 3) λe=>j (cy P 29 [(0,av),(1,e)]) λh=>j (b6 ag) λi=>j (aH P 59 i 3) λk=>a8 c (aU P c 29 k h) λd=>D (.tuple [],d)) (D (.tuple [],a))
def Mc(N:Nat){ag av:aa}{H:ad}{r:aa×ad}(h:ou (aD P ay) ag av H=D r):aD P ay 24 [ag,av] H=D r:=cV N (S:=λG=>ou G ag av H) Tryd.func24 (λ_=>by delta ou;kernel_rfl) h
def oq(G:az)(ag av:aa)(h bq:aa)(H:ad):O:=aJ H (G 21 [ag] H) λa i=>aN a X i (bu (aH P 61 h 0)) λq d=>aN a X d (qr (ak P d 3 q)) λs k=>aN a X k (cv bq) λu l=>aN a X l (bu (aq P .eql 3 U s u)) λv m=>j (cu a (D v) (D (.bool U))) λc=>aN c X m (bu (aH P 61 h 1)) λw e=>aN c X e (qr (ak P e 9 w)) λx n=>aN c X n (cv av) λy o=>aN c X o (bu (aq P .eql 9 U x y)) λz p=>j (cu c (D z) (D (.bool U))) λA=>D (A,p)
def Nn(G:az)(N:Nat):∀ae H,br P G N (o (o (o (o (bD Tryd.f23))))) (bm Tryd.f23) [] (bm Tryd.f23) ae H=oq G (ae 0) (ae 1) (ae 5) (ae 6) H:=by
 refine bS (aL _) λae H=> ?_
 delta oq;kernel_rfl
def kY(G:az)(ag av:aa)(H:ad):O:=aJ H (G 22 [ag] H) λq h=>cn h [I J 0,Z [],I J 0,I J 0] λc d=>a8 d (aU P d 61 c q) λi=>j (eU P 9 av (I J 0)) λm=>j (aq P .geq 5 X m (I .u8 97)) λa=>aN a X i (cv av) λn k=>aN a X k (bu (eU P 9 n (I J 0))) λo l=>aN a X l (bu (aq P .leq 5 X o (I .u8 122))) λp e=>j (cu a (D p) (D (.bool U))) λbC=>aX (D bC) (oq G ag av c (I J 3) e) (oq G ag av c (I J 4) e)
def Mb(N:Nat){ag av:aa}{H:ad}{r:aa×ad}(h:kY (aD P ay) ag av H=D r):aD P ay 23 [ag,av] H=D r:=cV N (S:=λG=>kY G ag av H) Tryd.func23 (λG=>dY ((aQ ah ((aQ ah ((aQ ah ((aQ ah (Nn G N) (aL _))) (aL _))) (aL _))) (aL _))) (by delta kY;generalize oq G=a;revert a;refine id ?_;intro a;kernel_rfl)) h
def ov(G:az)(ag av:aa)(H:ad):O:=aJ H (G 23 [ag,av] H) λbq a=>j (fq .not bq) λl=>aX (D l) (aJ a (G 24 [ag,I J 2] a) λm c=>D (.tuple [],c)) (j (b6 ag) λd=>j (aH P 59 d 1) λe=>j (ak P a 3 e) λh=>j (aq P .add 3 X h (I J 1)) λi=>j (b6 ag) λk=>j (aH P 59 k 1) λbC=>a8 a (aU P a 3 bC i) λc=>D (.tuple [],c))
def Mf(N:Nat){ag av:aa}{H:ad}{r:aa×ad}(h:ov (aD P ay) ag av H=D r):aD P ay 27 [ag,av] H=D r:=cV N (S:=λG=>ov G ag av H) Tryd.func27 (λ_=>by delta ov;kernel_rfl) h
def uu(ag m:aa)(a:ad):O:=j (b6 ag) λd=>j (aH P 59 d 2) λe=>j (ak P a 3 e) λh=>j (aq P .add 3 X h (I J 1)) λi=>j (b6 ag) λk=>j (aH P 59 k 2) λl=>a8 a (aU P a 3 l i) λc=>D (.tuple [],c)
def l2(G:az)(ag av:aa)(H:ad):O:=aJ H (G 23 [ag,av] H) λbq d=>aN bq X d (cv ag) λp e=>aN bq X e (bu (b6 p)) λq h=>aN bq X h (bu (aH P 59 q 2)) λl c=>aN bq X c (qr (ak P c 3 l)) λm i=>aN bq X i (bu (aq P .geq 3 X m (I J 50))) λn a=>j (cu bq (D n) (D (.bool U))) λo=>aX (D o) (aJ a (G 24 [ag,I J 4] a) λs k=>D (.tuple [],k)) (aJ a (G 27 [ag,av] a) (uu ag))
def ML(N:Nat){ag av:aa}{H:ad}{r:aa×ad}(h:l2 (aD P ay) ag av H=D r):aD P ay 77 [ag,av] H=D r:=cV N (S:=λG=>l2 G ag av H) Tryd.func77 (λ_=>by delta l2 uu;kernel_rfl) h
def r6(G:az)(ag av:aa)(H:ad):O:=aJ H (G 27 [ag,av] H) λbq a=>j (b6 ag) λk=>j (aH P 59 k 2) λl=>j (ak P a 3 l) λd=>j (aq P .sub 3 X d (I J 1)) λe=>j (b6 ag) λh=>j (aH P 59 h 2) λi=>a8 a (aU P a 3 i e) λc=>D (.tuple [],c)
def MO(N:Nat){ag av:aa}{H:ad}{r:aa×ad}(h:r6 (aD P ay) ag av H=D r):aD P ay 79 [ag,av] H=D r:=cV N (S:=λG=>r6 G ag av H) Tryd.func79 (λ_=>by delta r6;kernel_rfl) h
def qg(c:aa)(a:ad):O:=some ((Z []),a)
def lW(G:az)(ag:aa)(H:ad):O:=aJ H (G 22 [ag] H) λA l=>cn l [I J 0,Z [],I J 0,I J 0] λd e=>a8 e (aU P e 61 d A) λh=>aJ h (G 21 [ag] h) λc m=>aN c X m (bu (aH P 61 d 0)) λB i=>aN c X i (qr (ak P i 3 B)) λo n=>aN c X n (bu (aq P .eql 3 X o (I J 1))) λp a=>j (cu c (D p) (D (.bool U))) λq=>aX (D q) (j (b6 ag) λs=>j (aH P 59 s 1) λu=>j (ak P a 3 u) λbC=>j (aq P .add 3 X bC (I J 1)) λv=>j (b6 ag) λw=>j (aH P 59 w 1) λx=>a8 a (aU P a 3 x v) λk=>j (aH P 61 d 1) λy=>j (ak P k 9 y) λz=>D (z,k)) (aJ a (G 24 [ag,I J 2] a) (qg))
def Mx(N:Nat){ag:aa}{H:ad}{r:aa×ad}(h:lW (aD P ay) ag H=D r):aD P ay 55 [ag] H=D r:=cV N (S:=λG=>lW G ag H) Tryd.func55 (λ_=>by delta lW qg;kernel_rfl) h
def fJ(G:az)(N:Nat)(c d:aa)(H:ad):O:=j (ak P H 40 d) λe=>a8 H (aU P H 40 c e) λa=>j (ak P a 40 c) λr=>D (r,a)
def N6(G:az)(N:Nat):∀ae H,br P G N (o (o (o (o (o (o (bD Tryd.f53))))))) (bm Tryd.f53) [] (bm Tryd.f53) ae H=fJ G N (ae 2) (ae 4) H:=by
 refine bS (aL _) λae H=> ?_
 delta fJ;kernel_rfl
def gK(G:az)(N:Nat)(h:aa->aa->aa->aa->aa->ad->O)(ag a:aa)(c d e:aa)(H:ad):O:=j (aq P .lss 3 U e c) λk=>aX (D k) (aJ H (G 27 [ag,Z [93]] H) λm i=>j (aq P .add 3 X e (I J 1)) λl=>h ag a c d l i) (fJ G N a d H)
def m_(G:az)(N:Nat):Nat->aa->aa->aa->aa->aa->ad->O
 |0,_,_,_,_,_,_=>C
 |n+1,ag,a,c,d,e,H=>gK G N (m_ G N n) ag a c d e H
def N2(G:az)(N:Nat)(c:aa->aa->aa->aa->aa->ad->O):∀ae H,br P G N (a7 (a7 (o (a7 (o (o (o (o (o (bD Tryd.f53)))))))))) (λae H=>c (ae 0) (ae 2) (ae 3) (ae 4) (ae 5) H) [(3,(λae H=>fJ G N (ae 2) (ae 4) H))] (bm Tryd.f53) ae H=gK G N c (ae 0) (ae 2) (ae 3) (ae 4) (ae 5) H:=by
 refine bS (aL _) λae H=> ?_
 delta gK;generalize fJ G N=a;revert a;refine id ?_;intro a;kernel_rfl
def hr(G:az)(N:Nat)(ag a:aa)(c d:aa)(H:ad):O:=m_ G N N ag a c d (I J 0) H
def N5(G:az)(N:Nat):∀ae H,br P G N (o (o (o (o (o (bD Tryd.f53)))))) (bm Tryd.f53) [] (bm Tryd.f53) ae H=hr G N (ae 0) (ae 2) (ae 3) (ae 4) H:=by
 refine bS ((aQ ah (N6 G N) ((aQ ah ((dm ah ((eB (k:=λm ae H=>m_ G N m (ae 0) (ae 2) (ae 3) (ae 4) (ae 5) H) ah (λae H=>ah) (λm=>N2 G N (m_ G N m)))))) (aL _))))) λae H=> ?_
 delta hr;generalize m_ G N N=a;revert a;refine id ?_;intro a;kernel_rfl
def gY(G:az)(N:Nat)(ag e:aa)(h d m:aa)(H:ad):O:=aX (D m) (aJ H (G 22 [ag] H) λn a=>j (cL P 61 n 1) λo=>j (aH P 40 d 0) λp=>a8 a (aU P a 9 p o) λc=>j (b6 ag) λq=>j (aH P 59 q 1) λs=>j (ak P c 3 s) λu=>j (aq P .add 3 X u (I J 1)) λv=>j (b6 ag) λw=>j (aH P 59 w 1) λx=>a8 c (aU P c 3 x v) λi=>hr G N ag e h d i) (aJ H (G 55 [ag] H) λk a=>j (aH P 40 d 0) λl=>a8 a (aU P a 9 l k) λc=>hr G N ag e h d c)
def N7(G:az)(N:Nat):∀ae H,br P G N (o (a7 (a7 (o (o (o (o (bD Tryd.f53)))))))) (λae H=>hr G N (ae 0) (ae 2) (ae 3) (ae 4) H) [(2,(λae H=>hr G N (ae 0) (ae 2) (ae 3) (ae 4) H))] (bm Tryd.f53) ae H=gY G N (ae 0) (ae 2) (ae 3) (ae 4) (ae 27) H:=by
 refine bS (aL _) λae H=> ?_
 delta gY;generalize hr G N=a;revert a;refine id ?_;intro a;kernel_rfl
def hJ(G:az)(N:Nat)(ag i c:aa)(H:ad):O:=j (cy P 40 [(1,c)]) λm=>cn H [Z [],I J 0] λd e=>a8 e (aU P e 40 d m) λh=>aJ h (G 23 [ag,Z [105,110,116]] h) λk a=>aX (D k) (gY G N ag i c d k a) (aJ a (G 23 [ag,Z [98,111,111,108]] a) λn l=>gY G N ag i c d n l)
def N4(G:az)(N:Nat):∀ae H,br P G N (o (o (o (bD Tryd.f53)))) (bm Tryd.f53) [] (bm Tryd.f53) ae H=hJ G N (ae 0) (ae 2) (ae 3) H:=by
 refine bS ((aQ ah ((aQ ah (N5 G N) ((dm ah ((aQ ah (N7 G N) (aL _))))))) (aL _))) λae H=> ?_
 delta hJ;generalize gY G N=a;revert a;refine id ?_;intro a;kernel_rfl
def gX(G:az)(N:Nat)(i:aa->aa->aa->ad->O)(ag d e:aa)(H:ad):O:=aJ H (G 23 [ag,Z [91]] H) λq a=>aX (D q) (j (aq P .eql 3 X e (I J 3)) λs=>aX (D s) (aJ a (G 24 [ag,I J 4] a) λu c=>a8 c (aU P c 40 d (.agg [Z [],I J 0])) λh=>j (ak P h 40 d) λr=>D (r,h)) (j (b6 ag) λk=>j (aH P 59 k 1) λl=>j (ak P a 3 l) λbC=>j (aq P .add 3 X bC (I J 1)) λm=>j (b6 ag) λn=>j (aH P 59 n 1) λo=>a8 a (aU P a 3 o m) λc=>j (aq P .add 3 X e (I J 1)) λp=>i ag d p c)) (hJ G N ag d e a)
def na(G:az)(N:Nat):Nat->aa->aa->aa->ad->O
 |0,_,_,_,_=>C
 |n+1,ag,a,c,H=>gX G N (na G N n) ag a c H
def N3(G:az)(N:Nat)(c:aa->aa->aa->ad->O):∀ae H,br P G N (a7 (a7 (a7 (o (o (bD Tryd.f53)))))) (λae H=>c (ae 0) (ae 2) (ae 3) H) [(0,(λae H=>hJ G N (ae 0) (ae 2) (ae 3) H))] (bm Tryd.f53) ae H=gX G N c (ae 0) (ae 2) (ae 3) H:=by
 refine bS (aL _) λae H=> ?_
 delta gX;generalize hJ G N=a;revert a;refine id ?_;intro a;kernel_rfl
def gJ(G:az)(N:Nat)(ag:aa)(H:ad):O:=cn H [Z [],I J 0] λc a=>na G N N ag c (I J 0) a
def Mw(N:Nat){ag:aa}{H:ad}{r:aa×ad}(h:gJ (aD P ay) N ag H=D r):aD P ay 53 [ag] H=D r:=cV N (S:=λG=>gJ G N ag H) Tryd.func53 (λG=>dY ((aQ ah ((aQ ah ((aQ ah (N4 G N) ((dm ah ((eB (k:=λm ae H=>na G N m (ae 0) (ae 2) (ae 3) H) ah (λae H=>ah) (λm=>N3 G N (na G N m)))))))) (aL _))) (aL _))) (by delta gJ;generalize na G N N=a;revert a;refine id ?_;intro a;kernel_rfl)) h
def k7(G:az)(N:Nat)(H:ad):O:=some ((I J 0),H)
def Oq(G:az)(N:Nat):∀ae H,br P G N (o (o (o (o (o (bD Tryd.f70)))))) (bm Tryd.f70) [] (bm Tryd.f70) ae H=k7 G N H:=by
 refine bS (aL _) λae H=> ?_
 delta k7;kernel_rfl
def oL(G:az)(N:Nat)(e:aa->aa->aa->aa->aa->ad->O)(ag d:aa)(c bq a:aa)(H:ad):O:=j (cM P 131 c ag) λh=>j (ak P H 50 h) λi=>bh P .len [50] [i] H λk=>j (aq P .lss 3 U a k) λl=>aX (D l) (j (cM P 131 c ag) λn=>j (ak P H 50 n) λo=>j (cM P 50 o a) λp=>j (ak P H 9 p) λq=>j (aH P 61 d 1) λs=>j (ak P H 9 s) λu=>j (aq P .eql 9 U q u) λv=>aX (D v) (j (cM P 132 bq ag) λw=>j (ak P H 51 w) λx=>j (cM P 51 x a) λy=>j (ak P H 3 y) λz=>D (z,H)) (j (aq P .add 3 X a (I J 1)) λm=>e ag d c bq m H)) (k7 G N H)
def k8(G:az)(N:Nat):Nat->aa->aa->aa->aa->aa->ad->O
 |0,_,_,_,_,_,_=>C
 |n+1,ag,a,c,bq,d,H=>oL G N (k8 G N n) ag a c bq d H
def Oo(G:az)(N:Nat)(c:aa->aa->aa->aa->aa->ad->O):∀ae H,br P G N (a7 (a7 (o (a7 (o (o (o (o (bD Tryd.f70))))))))) (λae H=>c (ae 0) (ae 3) (ae 5) (ae 6) (ae 7) H) [(0,(λae H=>k7 G N H))] (bm Tryd.f70) ae H=oL G N c (ae 0) (ae 3) (ae 5) (ae 6) (ae 7) H:=by
 refine bS (aL _) λae H=> ?_
 delta oL;generalize k7 G N=a;revert a;refine id ?_;intro a;kernel_rfl
def ng(G:az)(N:Nat)(ag av:aa)(H:ad):O:=bZ H (dO (H).next av) λq a=>j (aH P 61 q 0) λM=>j (ak P a 3 M) λQ=>j (aq P .neq 3 X Q (I J 4)) λu=>aX (D u) (D ((I J 0),a)) (bZ a (D (.aB (a).next 0 1 1 (D 1),.row U 1 [[Z [124,124]]])) λv h=>bZ h (D (.aB (h).next 0 1 1 (D 1),.row U 1 [[Z [38,38]]])) λw i=>bZ i (D (.aB (i).next 0 4 1 (D 4),.row U 1 [[Z [60]],[Z [60,61]],[Z [61,61]],[Z [33,61]]])) λx k=>bZ k (D (.aB (k).next 0 2 1 (D 2),.row U 1 [[Z [43]],[Z [45]]])) λy l=>bZ l (D (.aB (l).next 0 3 1 (D 3),.row U 1 [[Z [42]],[Z [47]],[Z [37]]])) λz m=>bZ m (b5 P (m).next 131 5 [(0,v),(1,w),(2,x),(3,y),(4,z)]) λbC n=>bZ n (D (.aB (n).next 0 1 1 (D 1),.row U 1 [[I J 24]])) λA o=>bZ o (D (.aB (o).next 0 1 1 (D 1),.row U 1 [[I J 23]])) λB p=>bZ p (D (.aB (p).next 0 4 1 (D 4),.row U 1 [[I J 19],[I J 20],[I J 21],[I J 22]])) λE c=>bZ c (D (.aB (c).next 0 2 1 (D 2),.row U 1 [[I J 14],[I J 15]])) λF d=>bZ d (D (.aB (d).next 0 3 1 (D 3),.row U 1 [[I J 16],[I J 17],[I J 18]])) λK e=>bZ e (b5 P (e).next 132 5 [(0,A),(1,B),(2,E),(3,F),(4,K)]) λL s=>k8 G N N ag q bC L (I J 0) s)
def MK(N:Nat){ag av:aa}{H:ad}{r:aa×ad}(h:ng (aD P ay) N ag av H=D r):aD P ay 70 [ag,av] H=D r:=cV N (S:=λG=>ng G N ag av H) Tryd.func70 (λG=>dY ((aQ ah ((aQ ah ((aQ ah ((aQ ah ((aQ ah (Oq G N) ((aQ ah ((dm ah ((eB (k:=λm ae H=>k8 G N m (ae 0) (ae 3) (ae 5) (ae 6) (ae 7) H) ah (λae H=>ah) (λm=>Oo G N (k8 G N m)))))) (aL _))))) (aL _))) (aL _))) (aL _))) (aL _))) (by delta ng;generalize k8 G N N=a;revert a;refine id ?_;intro a;kernel_rfl)) h
def oy(G:az)(N:Nat)(c e:aa)(H:ad):O:=j (ak P H 45 e) λd=>a8 H (aU P H 45 c d) λa=>j (ak P a 45 c) λr=>D (r,a)
def NG(G:az)(N:Nat):∀ae H,br P G N (o (o (o (o (bD Tryd.f40))))) (bm Tryd.f40) [] (bm Tryd.f40) ae H=oy G N (ae 4) (ae 5) H:=by
 refine bS (aL _) λae H=> ?_
 delta oy;kernel_rfl
def iH(a:aa->aa->aa->aa->ad->O)(ag av:aa)(d e:aa)(c:ad):O:=a ag av d e c
def r2(G:az)(N:Nat)(A:aa->aa->aa->aa->ad->O)(ag av:aa)(z e:aa)(H:ad):O:=aJ H (G 21 [ag] H) λd B=>aN d X B (cv av) λQ K=>aN d X K (cv ag) λR m=>aN d X m (λq=>eI m (G 22 [R] m) q) λS n=>aN d X n (λq=>eI n (G 70 [Q,S] n) q) λT L=>aN d X L (bu (aq P .neq 3 X T (I J 0))) λV o=>j (cu d (D V) (D (.bool U))) λW=>aX (D W) (aJ o (G 22 [ag] o) λab M=>cn M [I J 0,Z [],I J 0,I J 0] λbq x=>a8 x (aU P x 61 bq ab) λp=>j (b6 ag) λae=>j (aH P 59 ae 1) λaf=>j (ak P p 3 af) λah=>j (aq P .add 3 X ah (I J 1)) λai=>j (b6 ag) λaj=>j (aH P 59 aj 1) λal=>a8 p (aU P p 3 al ai) λv=>j (aq P .add 3 X av (I J 1)) λam=>aJ v (G 40 [ag,am] v) λan E=>cn E [I J 0,I J 0,Z [],Z [],I J 0,aa.ar,I J 0,I J 0,I J 0,I J 0,I J 0] λl w=>a8 w (aU P w 45 l an) λa=>j (ak P a 61 bq) λy=>aJ a (G 70 [av,y] a) λao c=>j (ak P c 45 e) λs=>j (ak P c 45 l) λu=>bZ c (b5 P (c).next 41 2 [(0,s),(1,u)]) λap h=>j (aH P 61 bq 3) λi=>j (ak P h 3 i) λk=>j (cy P 45 [(0,ao),(4,ap),(5,k)]) λau=>a8 h (aU P h 45 e au) λF=>bif ((bl (ak P a 61 bq) y&&X)&&((bl (ak P a 45 e) s&&(bl (ak P c 45 e) s&&X))&&((bl (ak P a 45 l) u&&(bl (ak P c 45 l) u&&X))&&((bl (ak P a 3 i) k&&(bl (ak P c 3 i) k&&(bl (ak P h 3 i) k&&X)))&&X))))then(iH A ag av z e F)else C) (oy G N z e o)
def oz(G:az)(N:Nat):Nat->aa->aa->aa->aa->ad->O
 |0,_,_,_,_,_=>C
 |n+1,ag,av,a,c,H=>r2 G N (oz G N n) ag av a c H
def NF(G:az)(N:Nat)(c:aa->aa->aa->aa->ad->O):∀ae H,br P G N (a7 (a7 (a7 (o (o (o (bD Tryd.f40))))))) (λae H=>c (ae 0) (ae 1) (ae 4) (ae 5) H) [(0,(λae H=>oy G N (ae 4) (ae 5) H))] (bm Tryd.f40) ae H=r2 G N c (ae 0) (ae 1) (ae 4) (ae 5) H:=by
 refine bS (aL _) λae H=> ?_
 delta r2 iH;generalize oy G N=a;revert a;refine id ?_;intro a;kernel_rfl
def ik(G:az)(N:Nat)(ag av:aa)(c d:aa)(a:ad):O:=oz G N N ag av c d a
def il(G:az)(N:Nat)(d ag:aa)(av e c:aa)(a:ad):O:=a8 a (aU P a 45 c d) (ik G N ag av e c)
def im(G:az)(N:Nat)(ag av:aa)(d c:aa)(a:ad):O:=cn a [I J 0,I J 0,Z [],Z [],I J 0,aa.ar,I J 0,I J 0,I J 0,I J 0,I J 0] (il G N c ag av d)
def ih(G:az)(N:Nat)(ag av:aa)(H:ad):O:=cn H [I J 0,I J 0,Z [],Z [],I J 0,aa.ar,I J 0,I J 0,I J 0,I J 0,I J 0] λc a=>j (aq P .eql 3 X av (I J 5)) λk=>aX (D k) (aJ a (G 69 [ag] a) λh d=>a8 d (aU P d 45 c h) λe=>j (ak P e 45 c) λr=>D (r,e)) (j (aq P .add 3 X av (I J 1)) λi=>aJ a (G 40 [ag,i] a) (im G N ag av c))
def Mn(N:Nat){ag av:aa}{H:ad}{r:aa×ad}(h:ih (aD P ay) N ag av H=D r):aD P ay 40 [ag,av] H=D r:=cV N (S:=λG=>ih G N ag av H) Tryd.func40 (λG=>dY ((aQ ah ((aQ ah ((aQ ah ((aQ ah (NG G N) ((dm ah ((eB (k:=λm ae H=>oz G N m (ae 0) (ae 1) (ae 4) (ae 5) H) ah (λae H=>ah) (λm=>NF G N (oz G N m)))))))) (aL _))) (aL _))) (aL _))) (by delta ih im il ik;generalize oz G N N=a;revert a;refine id ?_;intro a;kernel_rfl)) h
def l1(G:az)(ag k:aa)(l K:aa)(H:ad):O:=j (aH P 61 l 1) λo=>j (ak P H 9 o) λp=>aJ H (G 77 [ag,p] H) λL e=>aJ e (G 40 [ag,I J 5] e) λq n=>cn n [I J 0,I J 0,Z [],Z [],I J 0,aa.ar,I J 0,I J 0,I J 0,I J 0,I J 0] λm h=>a8 h (aU P h 45 m q) λa=>j (b6 ag) λs=>j (aH P 59 s 2) λu=>j (ak P a 3 u) λv=>j (aq P .sub 3 X v (I J 1)) λw=>j (b6 ag) λx=>j (aH P 59 x 2) λy=>a8 a (aU P a 3 y w) λc=>j (ak P c 45 m) λz=>bZ c (b5 P (c).next 41 1 [(0,z)]) λA d=>j (aH P 61 l 3) λB=>j (ak P d 3 B) λE=>j (cy P 45 [(0,K),(4,A),(5,E)]) λF=>a8 d (aU P d 45 k F) λi=>j (ak P i 45 k) λr=>D (r,i)
def On(G:az)(N:Nat):∀ae H,br P G N (o (o (o (o (bD Tryd.f69))))) (bm Tryd.f69) [] (bm Tryd.f69) ae H=l1 G (ae 0) (ae 2) (ae 3) (ae 4) H:=by
 refine bS (aL _) λae H=> ?_
 delta l1;kernel_rfl
def jl(G:az)(ag a:aa)(h:ad):O:=aJ h (G 22 [ag] h) λv o=>cn o [I J 0,Z [],I J 0,I J 0] λe i=>a8 i (aU P i 61 e v) λk=>aJ k (G 23 [ag,Z [45]] k) λs c=>aX (D s) (l1 G ag a e (I J 12) c) (aJ c (G 23 [ag,Z [33]] c) λu d=>aX (D u) (l1 G ag a e (I J 13) d) (aJ d (G 83 [ag] d) λp l=>aJ l (G 82 [ag,p] l) λq m=>a8 m (aU P m 45 a q) λn=>j (ak P n 45 a) λr=>D (r,n)))
def iI(G:az)(ag:aa)(H:ad):O:=cn H [I J 0,I J 0,Z [],Z [],I J 0,aa.ar,I J 0,I J 0,I J 0,I J 0,I J 0] (jl G ag)
def MJ(N:Nat){ag:aa}{H:ad}{r:aa×ad}(h:iI (aD P ay) ag H=D r):aD P ay 69 [ag] H=D r:=cV N (S:=λG=>iI G ag H) Tryd.func69 (λG=>dY ((aQ ah ((aQ ah ((aQ ah ((aQ ah (On G N) (aL _))) (aL _))) (aL _))) (aL _))) (by delta iI jl;generalize l1 G=a;revert a;refine id ?_;intro a;kernel_rfl)) h
def oO(G:az)(N:Nat)(d c:aa)(H:ad):O:=j (ak P H 45 d) λe=>a8 H (aU P H 45 c e) λa=>j (ak P a 45 c) λr=>D (r,a)
def Oy(G:az)(N:Nat):∀ae H,br P G N (o (o (bD Tryd.f82))) (bm Tryd.f82) [] (bm Tryd.f82) ae H=oO G N (ae 3) (ae 4) H:=by
 refine bS (aL _) λae H=> ?_
 delta oO;kernel_rfl
def jI(a:aa->aa->aa->ad->O)(ag d e:aa)(c:ad):O:=a ag d e c
def k9(a:aa->aa->aa->ad->O)(ag d e:aa)(c:ad):O:=a ag d e c
def iJ(G:az)(p:aa->aa->aa->ad->O)(ag a:aa)(u s:aa)(q:ad):O:=aJ q (G 23 [ag,Z [46]] q) λbC h=>aX (D bC) (j (b6 ag) λv=>j (aH P 59 v 1) λw=>j (ak P h 3 w) λx=>j (aq P .add 3 X x (I J 1)) λy=>j (b6 ag) λz=>j (aH P 59 z 1) λA=>a8 h (aU P h 3 A y) λd=>aJ d (G 55 [ag] d) λB e=>j (ak P e 45 a) λo=>bZ e (b5 P (e).next 41 1 [(0,o)]) λE c=>j (aH P 61 u 3) λl=>j (ak P c 3 l) λm=>j (cy P 45 [(0,(I J 5)),(2,B),(4,E),(5,m)]) λF=>a8 c (aU P c 45 a F) λi=>bif ((bl (ak P d 45 a) o&&(bl (ak P e 45 a) o&&X))&&((bl (ak P d 3 l) m&&(bl (ak P e 3 l) m&&(bl (ak P c 3 l) m&&X)))&&X))then(jI p ag a s i)else C) (aJ h (G 77 [ag,Z [91]] h) λS d=>aJ d (G 40 [ag,I J 0] d) λH e=>cn e [I J 0,I J 0,Z [],Z [],I J 0,aa.ar,I J 0,I J 0,I J 0,I J 0,I J 0] λbq c=>a8 c (aU P c 45 bq H) λi=>aJ i (G 79 [ag,Z [93]] i) λT k=>j (ak P k 45 a) λK=>j (ak P k 45 bq) λL=>bZ k (b5 P (k).next 41 2 [(0,K),(1,L)]) λM n=>j (aH P 61 u 3) λN=>j (ak P n 3 N) λQ=>j (cy P 45 [(0,(I J 6)),(4,M),(5,Q)]) λR=>a8 n (aU P n 45 a R) (k9 p ag a s))
def iK(G:az)(d:aa->aa->aa->ad->O)(e ag:aa)(h i c:aa)(a:ad):O:=a8 a (aU P a 61 c e) (iJ G d ag h c i)
def iL(G:az)(a:aa->aa->aa->ad->O)(ag e:aa)(h d:aa)(c:ad):O:=cn c [I J 0,Z [],I J 0,I J 0] (iK G a d ag e h)
def ko(G:az)(c:aa->aa->aa->ad->O)(a:ad)(ag d e:aa):O:=aJ a (G 22 [ag] a) (iL G c ag d e)
def r7(G:az)(N:Nat)(i:aa->aa->aa->ad->O)(ag e h:aa)(H:ad):O:=aJ H (G 23 [ag,Z [46]] H) λc k=>aN c U k (cv ag) λl a=>aN c U a (λq=>eI a (G 23 [l,Z [91]] a) q) λm d=>j (cu c (D (.bool X)) (D m)) λn=>aX (D n) (ko G i d ag e h) (oO G N e h d)
def nh(G:az)(N:Nat):Nat->aa->aa->aa->ad->O
 |0,_,_,_,_=>C
 |n+1,ag,a,c,H=>r7 G N (nh G N n) ag a c H
def Ox(G:az)(N:Nat)(c:aa->aa->aa->ad->O):∀ae H,br P G N (a7 (a7 (a7 (o (bD Tryd.f82))))) (λae H=>c (ae 0) (ae 3) (ae 4) H) [(0,(λae H=>oO G N (ae 3) (ae 4) H))] (bm Tryd.f82) ae H=r7 G N c (ae 0) (ae 3) (ae 4) H:=by
 refine bS (aL _) λae H=> ?_
 delta r7 ko iL iK iJ k9 jI;generalize oO G N=a;revert a;refine id ?_;intro a;kernel_rfl
def iM(G:az)(N:Nat)(ag c d:aa)(a:ad):O:=nh G N N ag c d a
def iN(G:az)(N:Nat)(ag c:aa)(a:ad):O:=cn a [I J 0,I J 0,Z [],Z [],I J 0,aa.ar,I J 0,I J 0,I J 0,I J 0,I J 0] (iM G N ag c)
def ir(G:az)(N:Nat)(ag av:aa)(H:ad):O:=bZ H (dO (H).next av) (iN G N ag)
def MQ(N:Nat){ag av:aa}{H:ad}{r:aa×ad}(h:ir (aD P ay) N ag av H=D r):aD P ay 82 [ag,av] H=D r:=cV N (S:=λG=>ir G N ag av H) Tryd.func82 (λG=>dY ((aQ ah ((aQ ah (Oy G N) ((dm ah ((eB (k:=λm ae H=>nh G N m (ae 0) (ae 3) (ae 4) H) ah (λae H=>ah) (λm=>Ox G N (nh G N m)))))))) (aL _))) (by delta ir iN iM;generalize nh G N N=a;revert a;refine id ?_;intro a;kernel_rfl)) h
def oQ(G:az)(ag:aa)(H:ad):O:=cn H [I J 0,I J 0,Z [],Z [],I J 0,aa.ar,I J 0,I J 0,I J 0,I J 0,I J 0] λk c=>aJ c (G 77 [ag,Z [40]] c) λp d=>aJ d (G 40 [ag,I J 0] d) λo m=>cn m [I J 0,I J 0,Z [],Z [],I J 0,aa.ar,I J 0,I J 0,I J 0,I J 0,I J 0] λl e=>a8 e (aU P e 45 l o) λh=>aJ h (G 79 [ag,Z [41]] h) λq a=>j (ak P a 45 l) λn=>a8 a (aU P a 45 k n) λi=>j (ak P i 45 k) λr=>D (r,i)
def MV(N:Nat){ag:aa}{H:ad}{r:aa×ad}(h:oQ (aD P ay) ag H=D r):aD P ay 92 [ag] H=D r:=cV N (S:=λG=>oQ G ag H) Tryd.func92 (λ_=>by delta oQ;kernel_rfl) h
def k_(G:az)(ag d m:aa)(H:ad):O:=aJ H (G 55 [ag] H) λl i=>aJ i (G 23 [ag,Z [40]] i) λn c=>j (fq .not n) λo=>aX (D o) (j (aH P 61 m 3) λp=>j (ak P c 3 p) λq=>j (cy P 45 [(0,(I J 4)),(2,l),(5,q)]) λs=>a8 c (aU P c 45 d s) λa=>j (ak P a 45 d) λr=>D (r,a)) (aJ c (G 93 [ag] c) λu a=>j (aH P 61 m 3) λe=>j (ak P a 3 e) λh=>j (cy P 45 [(0,(I J 7)),(2,l),(4,u),(5,h)]) λv=>a8 a (aU P a 45 d v) λk=>bif ((bl (ak P c 3 e) h&&(bl (ak P a 3 e) h&&X))&&X)then(j (ak P k 45 d) λr=>D (r,k))else C)
def Oz(G:az)(N:Nat):∀ae H,br P G N (o (o (o (bD Tryd.f83)))) (bm Tryd.f83) [] (bm Tryd.f83) ae H=k_ G (ae 0) (ae 2) (ae 3) H:=by
 refine bS (aL _) λae H=> ?_
 delta k_;kernel_rfl
def gv(ag:aa)(c:ad)(h e:aa):O:=j (b6 ag) λi=>j (aH P 59 i 1) λk=>j (ak P c 3 k) λl=>j (aq P .add 3 X l (I J 1)) λm=>j (b6 ag) λn=>j (aH P 59 n 1) λo=>a8 c (aU P c 3 o m) λa=>j (aH P 61 h 2) λp=>j (ak P a 3 p) λq=>j (aH P 61 h 3) λs=>j (ak P a 3 s) λu=>j (cy P 45 [(0,(I J 1)),(1,q),(5,u)]) λv=>a8 a (aU P a 45 e v) λd=>j (ak P d 45 e) λr=>D (r,d)
def oP(G:az)(c d e:aa)(H:ad):O:=j (aH P 61 d 3) λh=>j (ak P H 3 h) λi=>j (cy P 45 [(0,(I J 2)),(1,e),(5,i)]) λk=>a8 H (aU P H 45 c k) λa=>j (ak P a 45 c) λr=>D (r,a)
def OB(G:az)(N:Nat):∀ae H,br P G N (o (o (o (a7 (o (o (o (a7 (a7 (o (o (bD Tryd.f83)))))))))))) (λae H=>k_ G (ae 0) (ae 2) (ae 3) H) [(0,(λae H=>k_ G (ae 0) (ae 2) (ae 3) H))] (bm Tryd.f83) ae H=oP G (ae 2) (ae 3) (ae 4) H:=by
 refine bS (aL _) λae H=> ?_
 delta oP;kernel_rfl
def gw(G:az)(ag:aa)(H:ad)(c d:aa):O:=j (b6 ag) λe=>j (aH P 59 e 1) λh=>j (ak P H 3 h) λi=>j (aq P .add 3 X i (I J 1)) λk=>j (b6 ag) λl=>j (aH P 59 l 1) λm=>a8 H (aU P H 3 m k) λa=>j (aH P 61 c 1) λn=>j (ak P a 9 n) λo=>j (aq P .eql 9 X o (Z [116,114,117,101])) λp=>aX (D p) (oP G d c (I J 1) a) (oP G d c (I J 0) a)
def gx(G:az)(ag:aa)(c:ad)(l k:aa):O:=j (b6 ag) λm=>j (aH P 59 m 1) λn=>j (ak P c 3 n) λo=>j (aq P .add 3 X o (I J 1)) λp=>j (b6 ag) λq=>j (aH P 59 q 1) λs=>a8 c (aU P c 3 s p) λd=>aJ d (G 53 [ag] d) λu a=>j (aH P 61 l 3) λe=>j (ak P a 3 e) λh=>j (cy P 45 [(0,(I J 3)),(3,u),(5,h)]) λv=>a8 a (aU P a 45 k v) λi=>bif ((bl (ak P d 3 e) h&&(bl (ak P a 3 e) h&&X))&&X)then(j (ak P i 45 k) λr=>D (r,i))else C
def gy(G:az)(ag:aa)(a:ad)(i h:aa):O:=j (b6 ag) λk=>j (aH P 59 k 1) λl=>j (ak P a 3 l) λm=>j (aq P .add 3 X m (I J 1)) λn=>j (b6 ag) λo=>j (aH P 59 o 1) λp=>a8 a (aU P a 3 p n) λc=>j (aH P 61 i 3) λq=>j (ak P c 3 q) λs=>aJ c (G 91 [ag,s] c) λu d=>a8 d (aU P d 45 h u) λe=>j (ak P e 45 h) λr=>D (r,e)
def gz(G:az)(ag:aa)(e:ad)(m l:aa):O:=j (b6 ag) λn=>j (aH P 59 n 1) λo=>j (ak P e 3 o) λp=>j (aq P .add 3 X p (I J 1)) λq=>j (b6 ag) λs=>j (aH P 59 s 1) λu=>a8 e (aU P e 3 u q) λh=>aJ h (G 92 [ag] h) λv i=>bZ i (b5 P (i).next 41 1 [(0,v)]) λw a=>j (aH P 61 m 3) λc=>j (ak P a 3 c) λd=>j (cy P 45 [(0,(I J 10)),(4,w),(5,d)]) λx=>a8 a (aU P a 45 l x) λk=>bif ((bl (ak P h 3 c) d&&(bl (ak P i 3 c) d&&(bl (ak P a 3 c) d&&X)))&&X)then(j (ak P k 45 l) λr=>D (r,k))else C
def gf(G:az)(ag:aa)(a:ad)(p i:aa):O:=j (b6 ag) λq=>j (aH P 59 q 1) λs=>j (ak P a 3 s) λu=>j (aq P .add 3 X u (I J 1)) λv=>j (b6 ag) λk=>j (aH P 59 k 1) λl=>a8 a (aU P a 3 l v) λd=>aJ d (G 77 [ag,Z [40]] d) λw e=>aJ e (G 79 [ag,Z [41]] e) λx c=>j (aH P 61 p 3) λm=>j (ak P c 3 m) λn=>j (cy P 45 [(0,(I J 11)),(5,n)]) λo=>a8 c (aU P c 45 i o) λh=>j (ak P h 45 i) λr=>D (r,h)
def fL(G:az)(a:ad)(ag e:aa):O:=aJ a (G 92 [ag] a) λh c=>a8 c (aU P c 45 e h) λd=>j (ak P d 45 e) λr=>D (r,d)
def gg(G:az)(ag c d:aa)(a:ad):O:=k_ G ag c d a
def fM(G:az)(ag c:aa)(e d:aa)(a:ad):O:=aX (D d) (fL G a ag c) (gg G ag c e a)
def gi(G:az)(a:ad)(ag c d:aa):O:=aJ a (G 23 [ag,Z [40]] a) (fM G ag c d)
def fN(G:az)(ag d:aa)(c e:aa)(a:ad):O:=aX (D e) (gf G ag a d c) (gi G a ag c d)
def gj(G:az)(a:ad)(ag d c:aa):O:=aJ a (G 23 [ag,Z [114,101,97,100]] a) (fN G ag d c)
def fO(G:az)(ag d:aa)(c e:aa)(a:ad):O:=aX (D e) (gz G ag a d c) (gj G a ag d c)
def gk(G:az)(a:ad)(ag d c:aa):O:=aJ a (G 23 [ag,Z [108,101,110]] a) (fO G ag d c)
def fP(G:az)(ag d:aa)(c e:aa)(a:ad):O:=aX (D e) (gy G ag a d c) (gk G a ag d c)
def gl(G:az)(a:ad)(ag d c:aa):O:=aJ a (G 23 [ag,Z [110,101,119]] a) (fP G ag d c)
def fQ(G:az)(ag d:aa)(c e:aa)(a:ad):O:=aX (D e) (gx G ag a d c) (gl G a ag d c)
def fR(G:az)(H:ad)(ag c a:aa):O:=aJ H (G 23 [ag,Z [110,117,108,108]] H) (fQ G ag c a)
def ni(G:az)(ag a:aa)(c d:aa)(H:ad):O:=aX (D d) (gw G ag H c a) (fR G H ag c a)
def OA(G:az)(N:Nat):∀ae H,br P G N (o (o (o (a7 (a7 (o (o (bD Tryd.f83)))))))) (λae H=>k_ G (ae 0) (ae 2) (ae 3) H) [(0,(λae H=>k_ G (ae 0) (ae 2) (ae 3) H))] (bm Tryd.f83) ae H=ni G (ae 0) (ae 2) (ae 3) (ae 28) H:=by
 refine bS ((dB ah ((aQ ah ((aQ ah ((aQ ah (OB G N) (aL _))) (aL _))) (aL _))) (aL _))) λae H=> ?_
 delta ni fR fQ gl fP gk fO gj fN gi fM gg fL gf gz gy gx gw;generalize k_ G=a;generalize oP G=c;revert a c;refine id ?_;intro a c;kernel_rfl
def gm(G:az)(ag c:aa)(d e:aa)(a:ad):O:=ni G ag c d e a
def fS(G:az)(ag c:aa)(d e:aa)(a:ad):O:=ni G ag c d e a
def gn(G:az)(a:ad)(ag c d:aa):O:=aJ a (G 23 [ag,Z [102,97,108,115,101]] a) (fS G ag c d)
def fT(G:az)(ag c:aa)(d e:aa)(a:ad):O:=aX (D e) (gm G ag c d e a) (gn G a ag c d)
def fU(G:az)(a:ad)(ag c d:aa):O:=aJ a (G 23 [ag,Z [116,114,117,101]] a) (fT G ag c d)
def fs(G:az)(ag:aa)(a:ad)(d c e:aa):O:=aX (D e) (gv ag a d c) (fU G a ag c d)
def ft(G:az)(c ag:aa)(h e d:aa)(a:ad):O:=j (cu c (D d) (D (.bool U))) (fs G ag a h e)
def fu(G:az)(a ag:aa)(h e d:aa)(c:ad):O:=aN a X c (bu (aq P .eql 3 X d (I J 2))) (ft G a ag h e)
def fv(G:az)(c ag:aa)(h e d:aa)(a:ad):O:=aN c X a (qr (ak P a 3 d)) (fu G c ag h e)
def fw(G:az)(c ag:aa)(e a:aa)(d:ad):O:=aN a X d (bu (aH P 61 c 0)) (fv G a ag c e)
def gp(G:az)(ag d c:aa)(a:ad):O:=aJ a (G 21 [ag] a) (fw G d ag c)
def gq(G:az)(e ag:aa)(d c:aa)(a:ad):O:=a8 a (aU P a 61 c e) (gp G ag c d)
def gr(G:az)(ag c d:aa)(a:ad):O:=cn a [I J 0,Z [],I J 0,I J 0] (gq G d ag c)
def gu(G:az)(ag c:aa)(a:ad):O:=aJ a (G 22 [ag] a) (gr G ag c)
def fK(G:az)(ag:aa)(H:ad):O:=cn H [I J 0,I J 0,Z [],Z [],I J 0,aa.ar,I J 0,I J 0,I J 0,I J 0,I J 0] (gu G ag)
def MR(N:Nat){ag:aa}{H:ad}{r:aa×ad}(h:fK (aD P ay) ag H=D r):aD P ay 83 [ag] H=D r:=cV N (S:=λG=>fK G ag H) Tryd.func83 (λG=>dY ((aQ ah ((aQ ah ((aQ ah (Oz G N) ((dm ah ((aQ ah ((dB ah (aL _) ((aQ ah (OA G N) (aL _))))) (aL _))))))) (aL _))) (aL _))) (by delta fK gu gr gq gp fw fv fu ft fs fU fT gn fS gm gv;generalize ni G=a;revert a;refine id ?_;intro a;kernel_rfl)) h
def la(G:az)(ag av:aa)(H:ad):O:=cn H [I J 0,I J 0,Z [],Z [],I J 0,aa.ar,I J 0,I J 0,I J 0,I J 0,I J 0] λk n=>aJ n (G 23 [ag,Z [91]] n) λL a=>j (fq .not L) λM=>aX (D M) (aJ a (G 55 [ag] a) λs c=>j (cy P 40 [(0,s)]) λu=>j (cy P 45 [(0,(I J 8)),(3,u),(5,av)]) λv=>a8 c (aU P c 45 k v) λe=>j (ak P e 45 k) λr=>D (r,e)) (j (b6 ag) λw=>j (aH P 59 w 1) λbC=>j (ak P a 3 bC) λx=>j (aq P .add 3 X x (I J 1)) λy=>j (b6 ag) λz=>j (aH P 59 z 1) λA=>a8 a (aU P a 3 A y) λc=>aJ c (G 53 [ag] c) λB e=>cn e [Z [],I J 0] λd p=>a8 p (aU P p 40 d B) λq=>aJ q (G 27 [ag,Z [93]] q) λN l=>aJ l (G 92 [ag] l) λE h=>j (ak P h 40 d) λi=>bZ h (b5 P (h).next 41 1 [(0,E)]) λF m=>j (cy P 45 [(0,(I J 9)),(3,i),(4,F),(5,av)]) λK=>a8 m (aU P m 45 k K) λo=>bif ((bl (ak P l 40 d) i&&(bl (ak P h 40 d) i&&(bl (ak P m 40 d) i&&X)))&&X)then(j (ak P o 45 k) λr=>D (r,o))else C)
def MU(N:Nat){ag av:aa}{H:ad}{r:aa×ad}(h:la (aD P ay) ag av H=D r):aD P ay 91 [ag,av] H=D r:=cV N (S:=λG=>la G ag av H) Tryd.func91 (λ_=>by delta la;kernel_rfl) h
def h1(G:az)(N:Nat)(ag c:aa)(H:ad):O:=aJ H (G 79 [ag,Z [41]] H) λd a=>D (c,a)
def OG(G:az)(N:Nat):∀ae H,br P G N (o (o (o (o (o (o (bD Tryd.f93))))))) (bm Tryd.f93) [] (bm Tryd.f93) ae H=h1 G N (ae 0) (ae 3) H:=by
 refine bS (aL _) λae H=> ?_
 delta h1;kernel_rfl
def oR(G:az)(N:Nat)(i:aa->aa->ad->O)(ag h:aa)(H:ad):O:=aJ H (G 23 [ag,Z [44]] H) λbC a=>aX (D bC) (j (b6 ag) λl=>j (aH P 59 l 1) λm=>j (ak P a 3 m) λn=>j (aq P .add 3 X n (I J 1)) λo=>j (b6 ag) λp=>j (aH P 59 p 1) λq=>a8 a (aU P a 3 q o) λc=>aJ c (G 40 [ag,I J 0] c) λs d=>bZ d (b5 P (d).next 41 1 [(0,s)]) λu e=>aJ e (c1 P e [41,41] h u) λv k=>i ag v k) (h1 G N ag h a)
def oS(G:az)(N:Nat):Nat->aa->aa->ad->O
 |0,_,_,_=>C
 |n+1,ag,a,H=>oR G N (oS G N n) ag a H
def OF(G:az)(N:Nat)(c:aa->aa->ad->O):∀ae H,br P G N (a7 (a7 (a7 (o (o (o (o (o (bD Tryd.f93))))))))) (λae H=>c (ae 0) (ae 3) H) [(0,(λae H=>h1 G N (ae 0) (ae 3) H))] (bm Tryd.f93) ae H=oR G N c (ae 0) (ae 3) H:=by
 refine bS (aL _) λae H=> ?_
 delta oR;generalize h1 G N=a;revert a;refine id ?_;intro a;kernel_rfl
def iu(G:az)(N:Nat)(ag:aa)(H:ad):O:=aJ H (G 77 [ag,Z [40]] H) λm d=>aJ d (G 23 [ag,Z [41]] d) λl a=>aX (D l) (aJ a (G 79 [ag,Z [41]] a) λn c=>D (aa.ar,c)) (aJ a (G 40 [ag,I J 0] a) λi c=>bZ c (b5 P (c).next 41 1 [(0,i)]) λj e=>aJ e (c1 P e [41,41] aa.ar j) λk h=>oS G N N ag k h)
def MW(N:Nat){ag:aa}{H:ad}{r:aa×ad}(h:iu (aD P ay) N ag H=D r):aD P ay 93 [ag] H=D r:=cV N (S:=λG=>iu G N ag H) Tryd.func93 (λG=>dY ((aQ ah ((aQ ah ((aQ ah ((aQ ah ((aQ ah ((aQ ah (OG G N) ((dm ah ((eB (k:=λm ae H=>oS G N m (ae 0) (ae 3) H) ah (λae H=>ah) (λm=>OF G N (oS G N m)))))))) (aL _))) (aL _))) (aL _))) (aL _))) (aL _))) (by delta iu;generalize oS G N N=a;revert a;refine id ?_;intro a;kernel_rfl)) h
