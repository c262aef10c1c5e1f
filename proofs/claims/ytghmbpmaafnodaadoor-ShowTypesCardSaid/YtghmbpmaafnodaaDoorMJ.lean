/-
  Texts of one proof, laid together: Pv Pw ShC.
-/
import Derived.Test.YtghmbpmaafnodaaDoorMI
set_option linter.unusedVariables false
set_option linter.unusedSimpArgs false
set_option linter.defProp false
open Option renaming some→D,none→Z
open Bool renaming true→X,false→U
open Go.b9.aa renaming int→I,str→Y
open Go.IntKind renaming i64→J
namespace Go.Proofs.YtghmbpmaafnodaaDoor
open Go.b9
def mq(w:aB):Prop:=∀b r,w=b::r->dj b=U/\du b=U
def pE(l:List bw):Prop:=∀r,mq (flat r)->mq (flat (l++r))
def hq(l:List bw):Prop:=∀t∈dJ l,t.pos=0
structure ff(l:List bw):Prop where
 z:hq l
 k:∀r,h9 r->mq (flat r)->h9 (l++r)
structure gg(l:List bw):Prop where
 z:hq l
 k:∀r,h9 r->h9 (l++r)
def gg.vC{l:List bw}(h:gg l):ff l:=⟨h.z,λr a _=>h.k r a⟩
def hq.app{l m:List bw}(h:hq l)(aX:hq m):hq (l++m):=by
 intro t a;rw[s7,List.mem_append]at a;exact a.elim (h t) (aX t)
def hq.tok{t:Tok}{l:List bw}(h:t.pos=0)(aX:hq l):hq (.t t::l):=by
 intro u hu;rw[dJ,List.mem_cons]at hu;rcases hu with rfl|hu
 ·exact h
 ·exact aX u hu
def ff.nil:ff []:=⟨λt a=>(List.not_mem_nil a).elim,λr h _=>h⟩
def gg.nil:gg []:=⟨λt a=>(List.not_mem_nil a).elim,λr h=>h⟩
def ff.app{l m:List bw}(h:ff l)(aX:ff m)(c:pE m):ff (l++m):=
 ⟨h.z.app aX.z,λr d a=>by rw[List.append_assoc];exact h.k _ (aX.k r d a) (c r a)⟩
def gg.app{l m:List bw}(h:gg l)(aX:gg m):gg (l++m):=
 ⟨h.z.app aX.z,λr a=>by rw[List.append_assoc];exact h.k _ (aX.k r a)⟩
def gg.Gv{l m:List bw}(h:gg l)(aX:ff m):ff (l++m):=
 ⟨h.z.app aX.z,λr c a=>by rw[List.append_assoc];exact h.k _ (aX.k r c a)⟩
def gg.b{s:aB}{l:List bw}(az:s.all hb=X)(h:gg l):gg (.b s::l):=⟨h.z,λr a=>⟨az,h.k r a⟩⟩
def ff.b{s:aB}{l:List bw}(az:s.all hb=X)(h:ff l):ff (.b s::l):=⟨h.z,λr c a=>⟨az,h.k r c a⟩⟩
def nW(x:aB):Prop:=h_ ⟨4,x,0,0⟩/\∀b,kR ⟨4,x,0,0⟩ b=X
def Ck{t:Tok}(h:∀b,kR t b=X):∀w,lM t w=X
 |[]=>rfl
 |b::_=>h b
def gg.bK{x:aB}{l:List bw}(a:nW x)(h:gg l):gg (bK x::l):=⟨hq.tok rfl h.z,λr c=>⟨a.1,Ck a.2 _,h.k r c⟩⟩
def ff.bK{x:aB}{l:List bw}(a:nW x)(h:ff l):ff (bK x::l):=⟨hq.tok rfl h.z,λr d c=>⟨a.1,Ck a.2 _,h.k r d c⟩⟩
def FJ(x:aB):Prop:=h_ ⟨4,x,0,0⟩/\kR ⟨4,x,0,0⟩ 32=X
def ff.op{x:aB}{l:List bw}(a:FJ x)(h:ff l):ff (Go.Proofs.YtghmbpmaafnodaaDoor.bK x::ct::l):=⟨hq.tok rfl h.z,λr d c=>⟨a.1,a.2,⟨b1,h.k r d c⟩⟩⟩
def Cl{t:Tok}(d:(t.kind==4)=U){w:aB}(h:mq w):lM t w=true:=by
 cases w with
 |nil=>rfl
 |cons b r=>
  obtain⟨a,c⟩:=h b r rfl;rw[lM,kR,d,aO,a,c];rfl
def ff.tok{t:Tok}{l:List bw}(j:h_ t)(d:(t.kind==4)=U)(c:t.pos=0)(h:ff l)(e:pE l):ff (.t t::l):=⟨hq.tok c h.z,λr i a=>⟨j,Cl d (e r a),h.k r i a⟩⟩
def gg.tok{t:Tok}{l:List bw}(i:h_ t)(c:(t.kind==4)=U)(a:t.pos=0)(h:gg l)(d:∀r,mq (flat (l++r))):gg (.t t::l):=⟨hq.tok a h.z,λr e=>⟨i,Cl c (d r),h.k r e⟩⟩
def Ng{x:aB}(h:dQ x=X):h_ ⟨1,x,0,0⟩:= .inl ⟨rfl,rfl,h⟩
def Ex{x:aB}(h:e1 x=X):h_ ⟨3,x,0,0⟩:= .inr (.inl ⟨rfl,rfl,h⟩)
def pE.nil:pE []:=λ_ h=>h
def I6{c:UInt8}{w:aB}(h:dj c=U/\du c=U):mq (c::w):=by
 intro b r e;cases e;exact h
def MG{c:UInt8}(h:hd c gl=X):h_ ⟨4,[c],0,0⟩:= .inr (.inr (.inr ⟨rfl,rfl,.inr ⟨c,rfl,h⟩⟩))
def DI{c:UInt8}(h:hd c gl=X)(aX:(c==60||(c==61||(c==33||(c==38||(c==124||c==47)))))=U):nW [c]:=by
 refine⟨MG h,λb=> ?_⟩;simp only[Bool.or_eq_false_iff,beq_eq_false_iff_ne]at aX;obtain⟨aQ,a2,a3,a4,a5,d⟩:=aX;have a:∀y:UInt8,y≠c->∀z:UInt8,([y,z]==[c,b])=false:=λy e z=>by simp[e]
 simp only[kR,beq_self_eq_true,aU,List.length_cons,List.length_nil,List.cons_append,List.nil_append,e5,h4];rw[a 60 (Ne.symm aQ),a 61 (Ne.symm a2),a 33 (Ne.symm a3),a 38 (Ne.symm a4),a 124 (Ne.symm a5)];simp[d]
def MF:nW [91]:=DI b1 b1
def we:nW [93]:=DI b1 b1
def sb{x:aB}(a:nW x)(n:Nat):gg (rep n (bK x)):=by
 unfold rep
 induction n with
 |zero=>exact .nil
 |succ n c=>rw[List.replicate_succ];exact .bK a c
def vl{c:UInt8}(h:dj c=U/\du c=U)(n:Nat):pE (rep n (bK [c])):=by
 intro r a;unfold rep;cases n with
 |zero=>exact a
 |succ n=>rw[List.replicate_succ];exact I6 h
def Jv{x:aB}{z:Int}(h:h7 x z):ff (ca x z):=by
 unfold ca;refine(sb MF _).Gv ?_;obtain⟨-,-,a⟩:=h;unfold nO;rcases a with a|rfl|rfl
 ·rw[Cc a,aO];exact .tok (Ng a) rfl rfl (sb we _).vC (vl b1 _)
 ·rw[show e1 [105,110,116]=X from b1,aU];exact .tok (Ex b1) rfl rfl (sb we _).vC (vl b1 _)
 ·rw[show e1 [98,111,111,108]=X from b1,aU];exact .tok (Ex b1) rfl rfl (sb we _).vC (vl b1 _)
def tk(l:List bw):Prop:=∀r,∃b w,flat (l++r)=b::w/\b≠61
def tk.app{l:List bw}(h:tk l)(m:List bw):tk (l++m):=λr=>by rw[List.append_assoc];exact h _
def sc:∀(a:List bw) (p:Nat),hq a->ie (lO a p)=dJ a++[⟨0,[],0,0⟩]
 |[],_,_=>rfl
 | .b s::r,p,h=>sc r (p+s.length) h
 | .t t::r,p,h=>by
  have d:=h t (by rw[dJ];exact List.mem_cons_self);have c:=sc r (p+(gE t).length) λu hu=>h u (by rw[dJ];exact List.mem_cons_of_mem _ hu)
  rw[lO,dJ];unfold ie at c ⊢;rw[List.map_cons,c];obtain⟨k,x,n,q⟩:=t;have:q=0:=d;subst this;rfl
def FK(l m:List Tok):∀(p:List Tok),gX (p++(l++m)) p.length l:=by
 induction l with
 |nil=>intro p;trivial
 |cons t l a=>
  intro p;refine⟨?_,?_⟩
  ·unfold ao;rw[if_neg (by simp only[List.length_append,List.length_cons];omega)];rw[show((p.length:Int)).toNat=p.length by omega,List.getElem?_append_right (bf _),Nat.sub_self];rfl
  ·have:=a (p++[t]);rw[List.append_assoc,List.length_append]at this;rw[show((p.length:Int)+1)=((p.length+[t].length:Nat):Int) by simp];exact this
def lk(l:List Fn):Nat:=(l.map λf=>dv f.body).sum
def NB(l:List Fn)(f:Fn):lk (l++[f])=lk l+dv f.body:=by simp[lk]
structure wV(a:Int)(g:dm):Prop where
 nc:∀x∈g.c_,nY x
 dh:∀x∈g.globals,gI x
 cq:∀x∈g.funcs,nX x
 gw:g.c_.length<=12
 mN:g.globals.length<=8
 oB:g.funcs.length<=16
 w:(lk g.funcs:Int)<=400*a
section
variable {T:List Tok}{E:Int}{s s' s2:aq}
def vz(aE:Good T E)(e:cM E s)(h:(dD T s).2.aD=0):gI (dD T s).1/\bP E s (dD T s).2 1:=by
 obtain⟨a,c,d⟩:=E3 aE e h;exact⟨⟨a,c⟩,d.less af⟩
def pN{α:Type}{p:α->Prop}{l:List α}{x:α}(h:∀y∈l,p y)(c:p x):∀y∈l++[x],p y:=by
 intro y a;rcases List.mem_append.1 a with a|a
 ·exact h y a
 ·simp only[List.mem_cons,List.not_mem_nil,or_false]at a;subst a;exact c
def zM(aE:Good T E):∀(n:Nat) (l:List b5) (s:aq) (p:List b5×aq),cM E s->(s.aD=0->l.length<=8/\∀x∈l,gI x)->oh T n l s=D p->p.2.aD=0->bP E s p.2 0/\p.1.length<=8/\∀x∈p.1,gI x
 |0,_,_,_,_,_,h,_=>by cases h
 |n+1,l,s,p,d,he,h,aF=>by
  rw[oh]at h;cases e:(s.aD==0&& !aW T s [125])with
  |false=>
   rw[e,aO]at h;cases h;exact⟨.refl (d aF) aF,he aF⟩
  |true=>
   rw[e,aU]at h;simp only[Bool.and_eq_true,beq_iff_eq]at e;obtain⟨F,u⟩:=he e.1;cases i:((ao T s.at_).kind==1&&l.length==8)with
   |true=>
    rw[i,aU]at h;cases h;exact absurd aF (eT b1)
   |false=>
    rw[i,aO]at h;have o:=λa=>vz aE d a
    have ip:cM E (dD T s).2:=bP.to d (λc=>(o c).2) af;have t1:=λa=>eB aE (x:=[59]) ip a
    have it:cM E (bj T [59] (dD T s).2):=bP.to ip (λc=>(t1 c).2.2) af;obtain⟨aZ,z,A⟩:=zM aE n _ _ p it (λa=>by
     obtain⟨-,-,dL⟩:=t1 a;obtain⟨B,H⟩:=o dL.f;have y:(ao T s.at_).kind=1:=by
      have k:(bp T s).2.aD=0:=by
       have v:(d_ T s).2.aD=0:=dL.f;have q:=λa=>kb aE d a
       have j:=λa=>eB aE (s:=(bp T s).2) (x:=[58]) (bP.to d (λc=>(q c).2) af) a
       have b3:=mS aE (s:=bj T [58] (bp T s).2) (bP.to d (λc=>(q (j c).2.2.f).2.trans (j c).2.2) af) v;exact(j b3.2.f).2.2.f
      unfold bp at k;cases m:(s.aD==0&&(ao T s.at_).kind==1)with
      |true=>simp only[Bool.and_eq_true,beq_iff_eq]at m;exact m.2
      |false=>rw[m,aO]at k;exact absurd k (eT b1)
     have G:l.length≠8:=by
      intro w;rw[y,w]at i;simp at i
     exact⟨by rw[List.length_append,List.length_singleton];omega,pN u B⟩) h aF
    obtain⟨-,-,dL⟩:=t1 aZ.f;exact⟨(((o dL.f).2.trans dL).trans aZ).less af,z,A⟩
def G8(aE:Good T E)(c:cM E s)(h:(lB T s).aD=0):bP E s (lB T s) 1:=by
 unfold lB at h ⊢;cases a:aW T (bj T [44] s) [41]with
 |true=>rw[a,aU]at h;exact absurd h (eT b1)
 |false=>rw[a,aO]at h;rw[aO];exact(eB aE c h).2.2
def CE(aE:Good T E):∀(n:Nat) (l:List b5) (s:aq) (p:List b5×aq),cM E s->(s.aD=0->l.length<=6/\∀x∈l,gI x)->oI T n l s=D p->p.2.aD=0->bP E s p.2 0/\p.1.length<=6/\∀x∈p.1,gI x
 |0,_,_,_,_,_,h,_=>by cases h
 |n+1,l,s,p,c,he,h,aF=>by
  rw[oI]at h;cases i:(s.aD==0&& !aW T s [41])with
  |false=>
   rw[i,aO]at h;cases h;exact⟨.refl (c aF) aF,he aF⟩
  |true=>
   rw[i,aU]at h;simp only[Bool.and_eq_true,beq_iff_eq]at i;obtain⟨G,v⟩:=he i.1;cases j:((ao T s.at_).kind==1&&l.length==6)with
   |true=>
    rw[j,aU]at h;cases h;exact absurd aF (eT b1)
   |false=>
    rw[j,aO]at h;have q:=λa=>vz aE c a
    have ip:cM E (dD T s).2:=bP.to c (λe=>(q e).2) af;have m:∀a:(bif aW T (dD T s).2 [41]then(dD T s).2 else lB T (dD T s).2).aD=0,bP E (dD T s).2 (bif aW T (dD T s).2 [41]then(dD T s).2 else lB T (dD T s).2) 0:=by
     intro a;cases d:aW T (dD T s).2 [41]with
     |true=>rw[d,aU]at a;rw[aU];exact .refl (ip a) a
     |false=>rw[d,aO]at a;rw[aO];exact(G8 aE ip a).less af
    have it:cM E (bif aW T (dD T s).2 [41]then(dD T s).2 else lB T (dD T s).2):=bP.to ip m af;obtain⟨aZ,A,B⟩:=CE aE n _ _ p it (λa=>by
     have dL:=m a;obtain⟨F,K⟩:=q dL.f;have z:(ao T s.at_).kind=1:=by
      have o:(bp T s).2.aD=0:=by
       have w:(d_ T s).2.aD=0:=dL.f;have u:=λa=>kb aE c a
       have k:=λa=>eB aE (s:=(bp T s).2) (x:=[58]) (bP.to c (λe=>(u e).2) af) a
       have b3:=mS aE (s:=bj T [58] (bp T s).2) (bP.to c (λe=>(u (k e).2.2.f).2.trans (k e).2.2) af) w;exact(k b3.2.f).2.2.f
      unfold bp at o;cases d:(s.aD==0&&(ao T s.at_).kind==1)with
      |true=>simp only[Bool.and_eq_true,beq_iff_eq]at d;exact d.2
      |false=>rw[d,aO]at o;exact absurd o (eT b1)
     have H:l.length≠6:=by
      intro y;rw[z,y]at j;simp at j
     exact⟨by rw[List.length_append,List.length_singleton];omega,pN v F⟩) h aF
    have dL:=m aZ.f;exact⟨(((q dL.f).2.trans dL).trans aZ).less af,A,B⟩
def JJ(aE:Good T E){n:Nat}{p:e3×aq}(e:cM E s)(h:mZ T n s=D p)(aF:p.2.aD=0):bP E s p.2 1/\nY p.1:=by
 unfold mZ at h;obtain⟨q,g1,g2⟩:=fo h;cases g2;have i:=λa=>kb aE e a
 have i1:cM E (bp T s).2:=bP.to e (λc=>(i c).2) af;have t1:=λa=>eB aE (x:=[123]) i1 a
 have i2:cM E (bj T [123] (bp T s).2):=bP.to i1 (λc=>(t1 c).2.2) af;have f1:=λa=>zM aE n [] _ q i2 (λ_=>⟨by simp,λx l=>by cases l⟩) g1 a
 have i3:cM E q.2:=bP.to i2 (λc=>(f1 c).1) af;obtain⟨-,-,z⟩:=eB aE (x:=[125]) i3 aF;obtain⟨aQ,a2,a3⟩:=f1 z.f;obtain⟨-,-,d⟩:=t1 aQ.f;obtain⟨j,k⟩:=i d.f;exact⟨((((k.trans d).trans aQ).trans z)).less af,⟨j,a2,a3⟩⟩
def JP(aE:Good T E)(d:cM E s)(h:(gz T s).2.aD=0):bP E s (gz T s).2 0/\(((gz T s).1.1=X/\h7 (gz T s).1.2.1 (gz T s).1.2.2)\/((gz T s).1.1=U/\(gz T s).1.2.1=[]/\(gz T s).1.2.2=0)):=by
 unfold gz at h ⊢;cases c:aW T s [58]with
 |true=>
  rw[c,aU]at h;rw[aU];have g:=fq aE (d (dZ c).1) c;obtain⟨a,b⟩:=mS aE (g.fJ d af) h;exact⟨(g.trans b).less af,.inl ⟨rfl,a⟩⟩
 |false=>
  rw[c,aO]at h;rw[aO];exact⟨.refl (d h) h,.inr ⟨rfl,rfl,rfl⟩⟩
def HM(aE:Good T E)(y:ml T){n:Nat}{p:Fn×aq}(o:cM E s)(h:mI T n s=D p)(aF:p.2.aD=0):bP E s p.2 1/\nX p.1/\(dv p.1.body:Int)<=400*(p.2.at_-s.at_):=by
 unfold mI at h;obtain⟨q,g1,g2⟩:=fo h;obtain⟨b,g3,g4⟩:=fo g2;cases g4;have u:=λe=>kb aE o e
 have i1:cM E (bp T s).2:=bP.to o (λi=>(u i).2) af;have t1:=λe=>eB aE (x:=[40]) i1 e
 have i2:cM E (bj T [40] (bp T s).2):=bP.to i1 (λi=>(t1 i).2.2) af;have f1:=λe=>CE aE n [] _ q i2 (λ_=>⟨by simp,λx z=>by cases z⟩) g1 e
 have i3:cM E q.2:=bP.to i2 (λi=>(f1 i).1) af;have t2:=λe=>eB aE (x:=[41]) i3 e
 have i4:cM E (bj T [41] q.2):=bP.to i3 (λi=>(t2 i).2.2) af;have v:=λe=>JP aE i4 e
 have i5:cM E (gz T (bj T [41] q.2)).2:=bP.to i4 (λi=>(v i).1) af;obtain⟨k,F,d,G,A⟩:=(CL aE y n).block _ b i5 g3 aF;obtain⟨m1,m2⟩:=v k.f;obtain⟨-,-,l⟩:=t2 m1.f;obtain⟨aQ,a2,a3⟩:=f1 l.f;obtain⟨-,-,j⟩:=t1 aQ.f;obtain⟨w,m⟩:=u j.f;have B:=(i5 k.f).c;have au:=m.a;have H:=j.a;have K:=aQ.a;have L:=l.a;have M:=m1.a;exact⟨(((((m.trans j).trans aQ).trans l).trans m1).trans k).less af,⟨w,a2,a3,m2,d,af,A⟩,by simp only;omega⟩
def oK(aE:Good T E)(m:ml T)(N:Nat):∀(n:Nat) (g:dm) (s:aq) (p:dm×aq),cM E s->(s.aD=0->wV s.at_ g)->hg T N n g s=D p->p.2.aD=0->wV p.2.at_ p.1/\p.2.at_<=E
 |0,_,_,_,_,_,h,_=>by cases h
 |n+1,g,s,p,i,he,h,aF=>by
  rw[hg]at h;cases k:(s.aD==0&&(ao T s.at_).kind != 0)with
  |false=>
   rw[k,aO]at h;cases h;exact⟨he aF,(i aF).b⟩
  |true=>
   rw[k,aU]at h;simp only[Bool.and_eq_true,beq_iff_eq]at k;have G:=he k.1;cases hm:((isRec T s&&g.c_.length==12)||((jF T s&&g.globals.length==8)||(isFun T s&&g.funcs.length==16)))with
   |true=>
    rw[hm,aU]at h;exact oK aE m N n g _ p (λd=>absurd d (eT b1)) (λd=>absurd d (eT b1)) h aF
   |false=>
    rw[hm,aO]at h;simp only[Bool.or_eq_false_iff]at hm;cases u:isRec T s with
    |true=>
     rw[u,aU]at h;obtain⟨q,g1,g2⟩:=fo h;have e:=fq aE (i k.1) u;have j:=λd=>JJ aE (e.fJ i af) g1 d
     have A:=e.a;have H:g.c_.length≠12:=by
      intro o;have:=hm.1;rw[u,o]at this;simp at this
     have:=G.gw;refine oK aE m N n _ q.2 p (bP.to (e.fJ i af) (λl=>(j l).1) af) (λd=> ?_) g2 aF;obtain⟨a,b⟩:=j d;have:=a.a;have:=G.w;exact⟨pN G.nc b,G.dh,G.cq,by rw[List.length_append,List.length_singleton];omega,G.mN,G.oB,by simp only;omega⟩
    |false=>
     rw[u,aO]at h;cases v:jF T s with
     |true=>
      rw[v,aU]at h;have e:=fq aE (i k.1) v;have A:=e.a;have B:=e.fJ i af;have j:=λd=>vz aE B d
      have F:cM E (dD T (aC s)).2:=bP.to B (λl=>(j l).2) af;have t1:=λd=>eB aE (x:=[59]) F d
      have L:g.globals.length≠8:=by
       intro o;have:=hm.2.1;rw[v,o]at this;simp at this
      have:=G.mN;refine oK aE m N n _ _ p (bP.to F (λl=>(t1 l).2.2) af) (λd=> ?_) h aF;obtain⟨-,-,z⟩:=t1 d;obtain⟨a,b⟩:=j z.f;have:=z.a;have:=b.a;have:=G.w;exact⟨G.nc,pN G.dh a,G.cq,G.gw,by rw[List.length_append,List.length_singleton];omega,G.oB,by simp only;omega⟩
     |false=>
      rw[v,aO]at h;cases y:isFun T s with
      |true=>
       rw[y,aU]at h;obtain⟨q,g1,g2⟩:=fo h;have e:=fq aE (i k.1) y;have j:=λd=>HM aE m (e.fJ i af) g1 d
       have A:=e.a;have K:g.funcs.length≠16:=by
        intro o;have:=hm.2.2;rw[y,o]at this;simp at this
       have:=G.oB;refine oK aE m N n _ q.2 p (bP.to (e.fJ i af) (λl=>(j l).1) af) (λd=> ?_) g2 aF;obtain⟨a,b,c⟩:=j d;have:=a.a;have:=G.w;exact⟨G.nc,G.dh,pN G.cq b,G.gw,G.mN,by rw[List.length_append,List.length_singleton];omega,by simp only;rw[NB];omega⟩
      |false=>
       rw[y,aO]at h;exact oK aE m N n g _ p (λd=>absurd d (eT b1)) (λd=>absurd d (eT b1)) h aF
end
def c9(x:aB)(r:List bw):(flat (bK x::r)).length=x.length+(flat r).length:=by rw[flat,List.length_append];rfl
def hy(x:aB)(r:List bw):(flat (wd x::r)).length=x.length+(flat r).length:=by rw[flat,List.length_append];rfl
def lJ(x:aB)(r:List bw):(flat (cc x::r)).length=x.length+(flat r).length:=by rw[flat,List.length_append];rfl
def ik(x:aB)(r:List bw):(flat (.b x::r)).length=x.length+(flat r).length:=by rw[flat,List.length_append];rfl
def ey(r:List bw):(flat (ct::r)).length=1+(flat r).length:=ik [32] r
def je(r:List bw):(flat (nl::r)).length=1+(flat r).length:=ik [10] r
def cV(a b:List bw):(flat (a++b)).length=(flat a).length+(flat b).length:=by rw[c2,List.length_append]
def eG:(flat []).length=0:=rfl
def u5(x:aB):∀n,(flat (rep n (bK x))).length=n*x.length
 |0=>by simp[rep,flat]
 |n+1=>by have:=u5 x n;unfold rep at this ⊢;rw[List.replicate_succ,c9,this,Nat.succ_mul];omega
def hS(x:aB)(z:Int):(flat (ca x z)).length=2*z.toNat+x.length:=by
 have e:(flat (nO x::rep z.toNat (bK [93]))).length=x.length+(flat (rep z.toNat (bK [93]))).length:=by
  unfold nO;cases e1 x
  ·exact lJ _ _
  ·exact hy _ _
 unfold ca;rw[cV,e,u5,u5];simp only[List.length_cons,List.length_nil];omega
def u7{k:Int}(h:14<=k)(aX:k<=24):(gC k).length<=2:=by
 have a:k=14\/k=15\/k=16\/k=17\/k=18\/k=19\/k=20\/k=21\/k=22\/k=23\/k=24:=af;rcases a with rfl|rfl|rfl|rfl|rfl|rfl|rfl|rfl|rfl|rfl|rfl<;>decide
def qe(m:Nat)(e:aJ):(flat (cl m e)).length<=(flat (bl e)).length+2:=by
 by_cases h:e.cr<m
 ·rw[vx h,c9,cV,c9,eG];simp only[List.length_cons,List.length_nil];omega
 ·rw[r7 h];omega
def Bs:∀l:List aJ,(∀e∈l,(flat (bl e)).length+4<=cL e)->(flat (eA (c5 l))).length<=bY l
 |[],_=>by simp[c5,eA,flat,bY]
 |[e],h=>by rw[mU];have:=h e (by simp);simp only[eA,bY];omega
 |e::f::r,h=>by
  have i:=h e (by simp);have c:=Bs (f::r) λx d=>h x (List.mem_cons_of_mem _ d)
  rw[c5]at c;rw[c5,c5,eA,cV,c9,ey,bY]
  ·simp only[List.length_cons,List.length_nil];omega
  ·intro a;cases a
def IE{n p:Int}:(flat [.t ⟨2,[],n,p⟩]).length<=20:=by
 have:=yw 20 n.toNat [];simpa [flat,bw.nN,gE]using this
def ox{d m:Nat}{e:aJ}(h:cv d m e):(flat (bl e)).length+4<=cL e:=by
 induction h with
 |par _ _ _ c=>exact c
 | @int d m n p _ _ _=>
  rw[eJ,cL,bY];have:(flat (kS {kind:=1,n:=n,pos:=p} (c5 []))).length<=20:=IE (p:=0);simp only[List.length_nil];omega
 | @bool d m n p _ h=>
  rw[eJ,cL,bY];have:(flat (kS {kind:=2,n:=n,pos:=p} (c5 []))).length<=5:=by
   rcases h with rfl|rfl
   ·exact bf 5
   ·exact(by decide:4<=5)
  simp only[List.length_nil];omega
 | @null d m x z p _ h=>
  rw[eJ,cL,bY];have:(flat (kS {kind:=3,cf:=x,c3:=z,pos:=p} (c5 []))).length=5+(2*z.toNat+x.length):=by
   show(flat (wd [110,117,108,108]::ct::ca x z)).length=_;rw[hy,ey,hS];simp only[List.length_cons,List.length_nil];omega
  have:=h.2.1;simp only[List.length_nil];omega
 | @var d m x p _ h=>
  rw[eJ,cL,bY];have:(flat (kS {kind:=4,name:=x,pos:=p} (c5 []))).length=x.length:=by
   show(flat [cc x]).length=_;rw[lJ,eG];omega
  simp only[List.length_nil];omega
 | @field d m x p e _ _ _ c=>
  rw[qz,cL,bY,bY,cV,c9,lJ,eG];have:=qe 7 e;simp only[List.length_cons,List.length_nil];omega
 | @item d m p e i _ _ _ ih1 ih2=>
  rw[qA,cL,bY,bY,bY,cV,c9,cV,c9,eG];have:=qe 7 e;simp only[List.length_cons,List.length_nil];omega
 | @call d m x p l _ _ _ c=>
  rw[qy,cL,lJ,c9,cV,c9,eG];have:=Bs l c;simp only[List.length_cons,List.length_nil];omega
 | @new d m x p _ _=>
  rw[eJ,cL,bY];have:(flat (kS {kind:=8,cf:=x,pos:=p} (c5 []))).length=4+x.length:=by
   show(flat [wd [110,101,119],ct,cc x]).length=_;rw[hy,ey,lJ,eG];simp only[List.length_cons,List.length_nil];omega
  simp only[List.length_nil];omega
 | @make d m x z p e _ h _ c=>
  rw[qC,cL,bY,bY,hy,ey,c9,cV,hS,c9,c9,cV,c9,eG];have:=h.2.1;simp only[List.length_cons,List.length_nil];omega
 | @len d m p e _ _ c=>
  rw[qB,cL,bY,bY,hy,c9,cV,c9,eG];simp only[List.length_cons,List.length_nil];omega
 | @read d m p _=>
  rw[eJ,cL,bY];have:(flat (kS {kind:=11,pos:=p} (c5 []))).length=6:=rfl;simp only[List.length_nil];omega
 | @sign d m k p e _ h _ c=>
  rw[mV h,cL,bY,bY,c9];have:=qe 6 e;have:(bif k==12 then[45]else[33]:aB).length=1:=by cases k==12<;>rfl
  simp only[List.length_nil];omega
 | @bin d m k p a b _ j o _ _ ih1 ih2=>
  rw[qx j,cL,bY,bY,bY,cV,ey,c9,ey];have:=qe (c4 k) a;have:=qe (c4 k+1) b;have:=u7 j o;simp only[List.length_nil];omega
def qh:∀l:List aJ,40*l.length<=bY l
 |[]=>by simp[bY]
 | .mk a ks::r=>by have:=qh r;rw[bY,cL,List.length_cons];omega
def gN{d:Nat}{e:aJ}(h:cv d 0 e):(flat (bl e)).length<=cL e:=by have:=ox h;omega
def hx(deep:Nat):(pad deep).length=2*deep:=by unfold pad;rw[List.length_replicate]
def u9(x o:aB)(z:Int):(flat (jK x o z)).length=x.length+2+(2*z.toNat+o.length):=by
 unfold jK;rw[lJ,c9,ey,hS];simp only[List.length_cons,List.length_nil];omega
def u3(d:aB)(B:List bw):(flat (hT d B)).length=4+(flat B).length+d.length:=by
 unfold hT;rw[ey,c9,je,cV,ik,c9,eG];simp only[List.length_cons,List.length_nil];omega
def qg{deep:Nat}:∀l:List bB,(∀s∈l,(flat (gx deep s)).length<=ea s)->(flat (cJ deep l)).length<=dv l
 |[],_=>by simp[cJ,flat,dv]
 |s::r,h=>by
  have c:=h s (by simp);have d:=qg r λx a=>h x (List.mem_cons_of_mem _ a)
  rw[cJ,cV,dv];omega
def u6{d:Nat}{s:bB}(h:ed d s):∀deep,deep+d<=51->(flat (gx deep s)).length<=ea s:=by
 induction h with
 | @var d x o z p l i=>
  intro deep a;rw[gx,ik,cV,je,hx,eG,ea,bY];have:=i.2.1;have:(flat (hU {kind:=1,name:=x,cf:=o,c3:=z,pos:=p} [] (cJ (deep+1) []) ([]:List bB).isEmpty (cJ (deep+1) []) (pad deep))).length=4+(x.length+2+(2*z.toNat+o.length))+1:=by
   show(flat (wd pr::ct::(jK x o z++[bK [59]]))).length=_;rw[hy,ey,cV,u9,c9,eG];simp only[List.length_cons,List.length_nil,pr];omega
  simp only[List.length_nil];omega
 | @lets d x o z p e l i hw=>
  intro deep a;rw[gx,ik,cV,je,hx,eG,ea,bY,bY];have:=i.2.1;have he:=gN hw;have:(flat (hU {kind:=2,name:=x,cf:=o,c3:=z,pos:=p} [e] (cJ (deep+1) []) ([]:List bB).isEmpty (cJ (deep+1) []) (pad deep))).length=4+(x.length+2+(2*z.toNat+o.length))+3+(flat (bl e)).length+1:=by
   show(flat (wd pn::ct::(jK x o z++ct::bK [61]::ct::(bl e++[bK [59]])))).length=_;rw[hy,ey,cV,u9,ey,c9,ey,cV,c9,eG];simp only[List.length_cons,List.length_nil,pn];omega
  simp only[List.length_nil];omega
 | @set d x p e l hw=>
  intro deep a;rw[gx,ik,cV,je,hx,eG,ea,bY,bY];have he:=gN hw;have:(flat (hU {kind:=3,name:=x,pos:=p} [e] (cJ (deep+1) []) ([]:List bB).isEmpty (cJ (deep+1) []) (pad deep))).length=x.length+3+(flat (bl e)).length+1:=by
   show(flat (cc x::ct::bK [61]::ct::(bl e++[bK [59]]))).length=_;rw[lJ,ey,c9,ey,cV,c9,eG];simp only[List.length_cons,List.length_nil];omega
  simp only[List.length_nil];omega
 | @put d p e f q hw k=>
  intro deep a;rw[gx,ik,cV,je,hx,eG,ea,bY,bY,bY];have he:=gN hw;have k:=gN k;have:(flat (hU {kind:=4,pos:=p} [e,f] (cJ (deep+1) []) ([]:List bB).isEmpty (cJ (deep+1) []) (pad deep))).length=(flat (bl e)).length+3+(flat (bl f)).length+1:=by
   show(flat (bl e++ct::bK [61]::ct::(bl f++[bK [59]]))).length=_;rw[cV,ey,c9,ey,cV,c9,eG];simp only[List.length_cons,List.length_nil];omega
  simp only[List.length_nil];omega
 | @ifs d p e b c hw n w j u=>
  intro deep a;rw[gx,ik,cV,je,hx,eG,ea,bY,bY];have he:=gN hw;have m:=qg b (λs az=>j s az (deep+1) af);have v:=qg c (λs az=>u s az (deep+1) af);have:(flat (hU {kind:=5,pos:=p} [e] (cJ (deep+1) b) c.isEmpty (cJ (deep+1) c) (pad deep))).length<=3+(flat (bl e)).length+(4+(flat (cJ (deep+1) b)).length+2*deep)+(5+(4+(flat (cJ (deep+1) c)).length+2*deep)):=by
   show(flat (wd ll::ct::(bl e++(hT (pad deep) (cJ (deep+1) b)++bif c.isEmpty then[]else ct::wd q8::hT (pad deep) (cJ (deep+1) c))))).length<=_;rw[hy,ey,cV,cV,u3,hx];cases c.isEmpty
   ·rw[aO,ey,hy,u3,hx];simp only[List.length_cons,List.length_nil,ll,q8];omega
   ·rw[aU,eG];simp only[List.length_cons,List.length_nil,ll];omega
  simp only[List.length_nil];omega
 | @«while» d p e b hw n j=>
  intro deep a;rw[gx,ik,cV,je,hx,eG,ea,bY,bY];have he:=gN hw;have m:=qg b (λs az=>j s az (deep+1) af);have:(flat (hU {kind:=6,pos:=p} [e] (cJ (deep+1) b) ([]:List bB).isEmpty (cJ (deep+1) []) (pad deep))).length=6+(flat (bl e)).length+(4+(flat (cJ (deep+1) b)).length+2*deep):=by
   show(flat (wd ps::ct::(bl e++hT (pad deep) (cJ (deep+1) b)))).length=_;rw[hy,ey,cV,u3,hx];simp only[List.length_cons,List.length_nil,ps];omega
  simp only[List.length_nil];omega
 | @m_ d p=>
  intro deep a;rw[gx,ik,cV,je,hx,eG,ea,bY];have:(flat (hU {kind:=7,pos:=p} [] (cJ (deep+1) []) ([]:List bB).isEmpty (cJ (deep+1) []) (pad deep))).length=7:=rfl;simp only[List.length_nil];omega
 | @na d p e hw=>
  intro deep a;rw[gx,ik,cV,je,hx,eG,ea,bY,bY];have he:=gN hw;have:(flat (hU {kind:=7,pos:=p} [e] (cJ (deep+1) []) ([]:List bB).isEmpty (cJ (deep+1) []) (pad deep))).length=7+(flat (bl e)).length+1:=by
   show(flat (wd mi::ct::(bl e++[bK [59]]))).length=_;rw[hy,ey,cV,c9,eG];simp only[List.length_cons,List.length_nil,mi];omega
  simp only[List.length_nil];omega
 | @print d p e hw=>
  intro deep a;rw[gx,ik,cV,je,hx,eG,ea,bY,bY];have he:=gN hw;have:(flat (hU {kind:=8,pos:=p} [e] (cJ (deep+1) []) ([]:List bB).isEmpty (cJ (deep+1) []) (pad deep))).length=6+(flat (bl e)).length+1:=by
   show(flat (wd po::ct::(bl e++[bK [59]]))).length=_;rw[hy,ey,cV,c9,eG];simp only[List.length_cons,List.length_nil,po];omega
  simp only[List.length_nil];omega
 | @call d p e q hw=>
  intro deep a;rw[gx,ik,cV,je,hx,eG,ea,bY,bY];have he:=gN hw;have:(flat (hU {kind:=9,pos:=p} [e] (cJ (deep+1) []) ([]:List bB).isEmpty (cJ (deep+1) []) (pad deep))).length=(flat (bl e)).length+1:=by
   show(flat (bl e++[bK [59]])).length=_;rw[cV,c9,eG];simp only[List.length_cons,List.length_nil]
  simp only[List.length_nil];omega
section
set_option maxRecDepth 100000
noncomputable section
def ni(G:ax)(ag:aa)(H:ad):O:=cp H [I J 0,Y [],I J 0,I J 0] λe h=>j (bW ag) λV=>j (aI P 59 V 1) λW=>j (al P h 3 W) λbn=>j (an P .lss 3 X bn (I J 0)) λa=>aP a U h (cm ag) λab n=>aP a U n (bF (bW ab)) λv o=>aP a U o (bF (aI P 59 v 1)) λw i=>aP a U i (qr (al P i 3 w)) λx p=>aP a U p (cm ag) λy s=>aP a U s (bF (bW y)) λz u=>aP a U u (bF (aI P 59 z 0)) λA k=>aP a U k (qr (al P k 36 A)) λbH l=>aP a U l (λq=>gW (b4 P .empty .len [36] [bH]) (b4 P l .len [36] [bH]) q) λB m=>aP a U m (bF (an P .geq 3 U x B)) λE c=>j (cU a (D (.bool X)) (D E)) λF=>aV (D F) (a8 c (aT P c 61 e (.agg [I J 0,Y [],I J 0,I J 0])) λd=>j (al P d 61 e) λr=>D (r,d)) (j (bW ag) λK=>j (aI P 59 K 0) λL=>j (al P c 36 L) λM=>j (bW ag) λN=>j (aI P 59 N 1) λQ=>j (al P c 3 Q) λR=>j (cG P 36 M R) λS=>j (al P c 61 S) λT=>a8 c (aT P c 61 e T) λd=>j (al P d 61 e) λr=>D (r,d))
def J_(N:Nat){ag:aa}{H:ad}{r:aa×ad}(h:ni (aA P aw) ag H=D r):aA P aw 22 [ag] H=D r:=cQ N (S:=λG=>ni G ag H) Tryd.func22 (λ_=>by delta ni;kernel_rfl) h
def sv(G:ax)(ag:aa)(H:ad):O:=j (bW ag) λa=>j (aI P 59 a 3) λc=>j (aI P 29 c 0) λbn=>j (al P H 27 bn) λd=>j (an P .eql 27 X d (I J 0)) λe=>D (e,H)
def J9(N:Nat){ag:aa}{H:ad}{r:aa×ad}(h:sv (aA P aw) ag H=D r):aA P aw 21 [ag] H=D r:=cQ N (S:=λG=>sv G ag H) Tryd.func21 (λ_=>by delta sv;kernel_rfl) h
def nk(G:ax)(ag au:aa)(H:ad):O:=aG H (G 21 [ag] H) λl a=>aV (D l) (aG a (G 22 [ag] a) λm c=>j (cB P 61 m 3) λe=>j (ch P 29 [(0,au),(1,e)]) λh=>j (bW ag) λi=>j (aI P 59 i 3) λk=>a8 c (aT P c 29 k h) λd=>D (.tuple [],d)) (D (.tuple [],a))
def Kb(N:Nat){ag au:aa}{H:ad}{r:aa×ad}(h:nk (aA P aw) ag au H=D r):aA P aw 24 [ag,au] H=D r:=cQ N (S:=λG=>nk G ag au H) Tryd.func24 (λ_=>by delta nk;kernel_rfl) h
def nj(G:ax)(ag au:aa)(h bn:aa)(H:ad):O:=aG H (G 21 [ag] H) λa i=>aP a X i (bF (aI P 61 h 0)) λq d=>aP a X d (qr (al P d 3 q)) λs k=>aP a X k (cm bn) λu l=>aP a X l (bF (an P .eql 3 U s u)) λv m=>j (cU a (D v) (D (.bool U))) λc=>aP c X m (bF (aI P 61 h 1)) λw e=>aP c X e (qr (al P e 9 w)) λx n=>aP c X n (cm au) λy o=>aP c X o (bF (an P .eql 9 U x y)) λz p=>j (cU c (D z) (D (.bool U))) λA=>D (A,p)
def Li(G:ax)(N:Nat):∀ae H,bm P G N (o (o (o (o (bq Tryd.f23))))) (bh Tryd.f23) [] (bh Tryd.f23) ae H=nj G (ae 0) (ae 1) (ae 5) (ae 6) H:=by
 refine bL (aH _) λae H=> ?_
 delta nj;kernel_rfl
def kk(G:ax)(ag au:aa)(H:ad):O:=aG H (G 22 [ag] H) λq h=>cp h [I J 0,Y [],I J 0,I J 0] λc d=>a8 d (aT P d 61 c q) λi=>j (eE P 9 au (I J 0)) λm=>j (an P .geq 5 X m (I .u8 97)) λa=>aP a X i (cm au) λn k=>aP a X k (bF (eE P 9 n (I J 0))) λo l=>aP a X l (bF (an P .leq 5 X o (I .u8 122))) λp e=>j (cU a (D p) (D (.bool U))) λbH=>aV (D bH) (nj G ag au c (I J 3) e) (nj G ag au c (I J 4) e)
def Ka(N:Nat){ag au:aa}{H:ad}{r:aa×ad}(h:kk (aA P aw) ag au H=D r):aA P aw 23 [ag,au] H=D r:=cQ N (S:=λG=>kk G ag au H) Tryd.func23 (λG=>dO ((aN ah ((aN ah ((aN ah ((aN ah (Li G N) (aH _))) (aH _))) (aH _))) (aH _))) (by delta kk;generalize nj G=a;revert a;refine id ?_;intro a;kernel_rfl)) h
def nm(G:ax)(ag au:aa)(H:ad):O:=aG H (G 23 [ag,au] H) λbn a=>j (fk .not bn) λl=>aV (D l) (aG a (G 24 [ag,I J 2] a) λm c=>D (.tuple [],c)) (j (bW ag) λd=>j (aI P 59 d 1) λe=>j (al P a 3 e) λh=>j (an P .add 3 X h (I J 1)) λi=>j (bW ag) λk=>j (aI P 59 k 1) λbH=>a8 a (aT P a 3 bH i) λc=>D (.tuple [],c))
def Ke(N:Nat){ag au:aa}{H:ad}{r:aa×ad}(h:nm (aA P aw) ag au H=D r):aA P aw 27 [ag,au] H=D r:=cQ N (S:=λG=>nm G ag au H) Tryd.func27 (λ_=>by delta nm;kernel_rfl) h
def sT(ag m:aa)(a:ad):O:=j (bW ag) λd=>j (aI P 59 d 2) λe=>j (al P a 3 e) λh=>j (an P .add 3 X h (I J 1)) λi=>j (bW ag) λk=>j (aI P 59 k 2) λl=>a8 a (aT P a 3 l i) λc=>D (.tuple [],c)
def ld(G:ax)(ag au:aa)(H:ad):O:=aG H (G 23 [ag,au] H) λbn d=>aP bn X d (cm ag) λp e=>aP bn X e (bF (bW p)) λq h=>aP bn X h (bF (aI P 59 q 2)) λl c=>aP bn X c (qr (al P c 3 l)) λm i=>aP bn X i (bF (an P .geq 3 X m (I J 50))) λn a=>j (cU bn (D n) (D (.bool U))) λo=>aV (D o) (aG a (G 24 [ag,I J 4] a) λs k=>D (.tuple [],k)) (aG a (G 27 [ag,au] a) (sT ag))
def KJ(N:Nat){ag au:aa}{H:ad}{r:aa×ad}(h:ld (aA P aw) ag au H=D r):aA P aw 77 [ag,au] H=D r:=cQ N (S:=λG=>ld G ag au H) Tryd.func77 (λ_=>by delta ld sT;kernel_rfl) h
def qV(G:ax)(ag au:aa)(H:ad):O:=aG H (G 27 [ag,au] H) λbn a=>j (bW ag) λk=>j (aI P 59 k 2) λl=>j (al P a 3 l) λd=>j (an P .sub 3 X d (I J 1)) λe=>j (bW ag) λh=>j (aI P 59 h 2) λi=>a8 a (aT P a 3 i e) λc=>D (.tuple [],c)
def KM(N:Nat){ag au:aa}{H:ad}{r:aa×ad}(h:qV (aA P aw) ag au H=D r):aA P aw 79 [ag,au] H=D r:=cQ N (S:=λG=>qV G ag au H) Tryd.func79 (λ_=>by delta qV;kernel_rfl) h
def o9(c:aa)(a:ad):O:=some ((Y []),a)
def k7(G:ax)(ag:aa)(H:ad):O:=aG H (G 22 [ag] H) λA l=>cp l [I J 0,Y [],I J 0,I J 0] λd e=>a8 e (aT P e 61 d A) λh=>aG h (G 21 [ag] h) λc m=>aP c X m (bF (aI P 61 d 0)) λB i=>aP c X i (qr (al P i 3 B)) λo n=>aP c X n (bF (an P .eql 3 X o (I J 1))) λp a=>j (cU c (D p) (D (.bool U))) λq=>aV (D q) (j (bW ag) λs=>j (aI P 59 s 1) λu=>j (al P a 3 u) λbH=>j (an P .add 3 X bH (I J 1)) λv=>j (bW ag) λw=>j (aI P 59 w 1) λx=>a8 a (aT P a 3 x v) λk=>j (aI P 61 d 1) λy=>j (al P k 9 y) λz=>D (z,k)) (aG a (G 24 [ag,I J 2] a) (o9))
def Kv(N:Nat){ag:aa}{H:ad}{r:aa×ad}(h:k7 (aA P aw) ag H=D r):aA P aw 55 [ag] H=D r:=cQ N (S:=λG=>k7 G ag H) Tryd.func55 (λ_=>by delta k7 o9;kernel_rfl) h
def fu(G:ax)(N:Nat)(c d:aa)(H:ad):O:=j (al P H 40 d) λe=>a8 H (aT P H 40 c e) λa=>j (al P a 40 c) λr=>D (r,a)
def L0(G:ax)(N:Nat):∀ae H,bm P G N (o (o (o (o (o (o (bq Tryd.f53))))))) (bh Tryd.f53) [] (bh Tryd.f53) ae H=fu G N (ae 2) (ae 4) H:=by
 refine bL (aH _) λae H=> ?_
 delta fu;kernel_rfl
def gp(G:ax)(N:Nat)(h:aa->aa->aa->aa->aa->ad->O)(ag a:aa)(c d e:aa)(H:ad):O:=j (an P .lss 3 U e c) λk=>aV (D k) (aG H (G 27 [ag,Y [93]] H) λm i=>j (an P .add 3 X e (I J 1)) λl=>h ag a c d l i) (fu G N a d H)
def l4(G:ax)(N:Nat):Nat->aa->aa->aa->aa->aa->ad->O
 |0,_,_,_,_,_,_=>Z
 |n+1,ag,a,c,d,e,H=>gp G N (l4 G N n) ag a c d e H
def LW(G:ax)(N:Nat)(c:aa->aa->aa->aa->aa->ad->O):∀ae H,bm P G N (a1 (a1 (o (a1 (o (o (o (o (o (bq Tryd.f53)))))))))) (λae H=>c (ae 0) (ae 2) (ae 3) (ae 4) (ae 5) H) [(3,(λae H=>fu G N (ae 2) (ae 4) H))] (bh Tryd.f53) ae H=gp G N c (ae 0) (ae 2) (ae 3) (ae 4) (ae 5) H:=by
 refine bL (aH _) λae H=> ?_
 delta gp;generalize fu G N=a;revert a;refine id ?_;intro a;kernel_rfl
def gR(G:ax)(N:Nat)(ag a:aa)(c d:aa)(H:ad):O:=l4 G N N ag a c d (I J 0) H
def LZ(G:ax)(N:Nat):∀ae H,bm P G N (o (o (o (o (o (bq Tryd.f53)))))) (bh Tryd.f53) [] (bh Tryd.f53) ae H=gR G N (ae 0) (ae 2) (ae 3) (ae 4) H:=by
 refine bL ((aN ah (L0 G N) ((aN ah ((db ah ((en (k:=λm ae H=>l4 G N m (ae 0) (ae 2) (ae 3) (ae 4) (ae 5) H) ah (λae H=>ah) (λm=>LW G N (l4 G N m)))))) (aH _))))) λae H=> ?_
 delta gR;generalize l4 G N N=a;revert a;refine id ?_;intro a;kernel_rfl
def gB(G:ax)(N:Nat)(ag e:aa)(h d m:aa)(H:ad):O:=aV (D m) (aG H (G 22 [ag] H) λn a=>j (cB P 61 n 1) λo=>j (aI P 40 d 0) λp=>a8 a (aT P a 9 p o) λc=>j (bW ag) λq=>j (aI P 59 q 1) λs=>j (al P c 3 s) λu=>j (an P .add 3 X u (I J 1)) λv=>j (bW ag) λw=>j (aI P 59 w 1) λx=>a8 c (aT P c 3 x v) λi=>gR G N ag e h d i) (aG H (G 55 [ag] H) λk a=>j (aI P 40 d 0) λl=>a8 a (aT P a 9 l k) λc=>gR G N ag e h d c)
def L1(G:ax)(N:Nat):∀ae H,bm P G N (o (a1 (a1 (o (o (o (o (bq Tryd.f53)))))))) (λae H=>gR G N (ae 0) (ae 2) (ae 3) (ae 4) H) [(2,(λae H=>gR G N (ae 0) (ae 2) (ae 3) (ae 4) H))] (bh Tryd.f53) ae H=gB G N (ae 0) (ae 2) (ae 3) (ae 4) (ae 27) H:=by
 refine bL (aH _) λae H=> ?_
 delta gB;generalize gR G N=a;revert a;refine id ?_;intro a;kernel_rfl
def hk(G:ax)(N:Nat)(ag i c:aa)(H:ad):O:=j (ch P 40 [(1,c)]) λm=>cp H [Y [],I J 0] λd e=>a8 e (aT P e 40 d m) λh=>aG h (G 23 [ag,Y [105,110,116]] h) λk a=>aV (D k) (gB G N ag i c d k a) (aG a (G 23 [ag,Y [98,111,111,108]] a) λn l=>gB G N ag i c d n l)
def LY(G:ax)(N:Nat):∀ae H,bm P G N (o (o (o (bq Tryd.f53)))) (bh Tryd.f53) [] (bh Tryd.f53) ae H=hk G N (ae 0) (ae 2) (ae 3) H:=by
 refine bL ((aN ah ((aN ah (LZ G N) ((db ah ((aN ah (L1 G N) (aH _))))))) (aH _))) λae H=> ?_
 delta hk;generalize gB G N=a;revert a;refine id ?_;intro a;kernel_rfl
def gA(G:ax)(N:Nat)(i:aa->aa->aa->ad->O)(ag d e:aa)(H:ad):O:=aG H (G 23 [ag,Y [91]] H) λq a=>aV (D q) (j (an P .eql 3 X e (I J 3)) λs=>aV (D s) (aG a (G 24 [ag,I J 4] a) λu c=>a8 c (aT P c 40 d (.agg [Y [],I J 0])) λh=>j (al P h 40 d) λr=>D (r,h)) (j (bW ag) λk=>j (aI P 59 k 1) λl=>j (al P a 3 l) λbH=>j (an P .add 3 X bH (I J 1)) λm=>j (bW ag) λn=>j (aI P 59 n 1) λo=>a8 a (aT P a 3 o m) λc=>j (an P .add 3 X e (I J 1)) λp=>i ag d p c)) (hk G N ag d e a)
def l5(G:ax)(N:Nat):Nat->aa->aa->aa->ad->O
 |0,_,_,_,_=>Z
 |n+1,ag,a,c,H=>gA G N (l5 G N n) ag a c H
def LX(G:ax)(N:Nat)(c:aa->aa->aa->ad->O):∀ae H,bm P G N (a1 (a1 (a1 (o (o (bq Tryd.f53)))))) (λae H=>c (ae 0) (ae 2) (ae 3) H) [(0,(λae H=>hk G N (ae 0) (ae 2) (ae 3) H))] (bh Tryd.f53) ae H=gA G N c (ae 0) (ae 2) (ae 3) H:=by
 refine bL (aH _) λae H=> ?_
 delta gA;generalize hk G N=a;revert a;refine id ?_;intro a;kernel_rfl
def gn(G:ax)(N:Nat)(ag:aa)(H:ad):O:=cp H [Y [],I J 0] λc a=>l5 G N N ag c (I J 0) a
def Ku(N:Nat){ag:aa}{H:ad}{r:aa×ad}(h:gn (aA P aw) N ag H=D r):aA P aw 53 [ag] H=D r:=cQ N (S:=λG=>gn G N ag H) Tryd.func53 (λG=>dO ((aN ah ((aN ah ((aN ah (LY G N) ((db ah ((en (k:=λm ae H=>l5 G N m (ae 0) (ae 2) (ae 3) H) ah (λae H=>ah) (λm=>LX G N (l5 G N m)))))))) (aH _))) (aH _))) (by delta gn;generalize l5 G N N=a;revert a;refine id ?_;intro a;kernel_rfl)) h
def ku(G:ax)(N:Nat)(H:ad):O:=some ((I J 0),H)
def Mi(G:ax)(N:Nat):∀ae H,bm P G N (o (o (o (o (o (bq Tryd.f70)))))) (bh Tryd.f70) [] (bh Tryd.f70) ae H=ku G N H:=by
 refine bL (aH _) λae H=> ?_
 delta ku;kernel_rfl
def nD(G:ax)(N:Nat)(e:aa->aa->aa->aa->aa->ad->O)(ag d:aa)(c bn a:aa)(H:ad):O:=j (cG P 131 c ag) λh=>j (al P H 50 h) λi=>bd P .len [50] [i] H λk=>j (an P .lss 3 U a k) λl=>aV (D l) (j (cG P 131 c ag) λn=>j (al P H 50 n) λo=>j (cG P 50 o a) λp=>j (al P H 9 p) λq=>j (aI P 61 d 1) λs=>j (al P H 9 s) λu=>j (an P .eql 9 U q u) λv=>aV (D v) (j (cG P 132 bn ag) λw=>j (al P H 51 w) λx=>j (cG P 51 x a) λy=>j (al P H 3 y) λz=>D (z,H)) (j (an P .add 3 X a (I J 1)) λm=>e ag d c bn m H)) (ku G N H)
def kx(G:ax)(N:Nat):Nat->aa->aa->aa->aa->aa->ad->O
 |0,_,_,_,_,_,_=>Z
 |n+1,ag,a,c,bn,d,H=>nD G N (kx G N n) ag a c bn d H
def Mh(G:ax)(N:Nat)(c:aa->aa->aa->aa->aa->ad->O):∀ae H,bm P G N (a1 (a1 (o (a1 (o (o (o (o (bq Tryd.f70))))))))) (λae H=>c (ae 0) (ae 3) (ae 5) (ae 6) (ae 7) H) [(0,(λae H=>ku G N H))] (bh Tryd.f70) ae H=nD G N c (ae 0) (ae 3) (ae 5) (ae 6) (ae 7) H:=by
 refine bL (aH _) λae H=> ?_
 delta nD;generalize ku G N=a;revert a;refine id ?_;intro a;kernel_rfl
def ma(G:ax)(N:Nat)(ag au:aa)(H:ad):O:=bV H (dT (H).next au) λq a=>j (aI P 61 q 0) λM=>j (al P a 3 M) λQ=>j (an P .neq 3 X Q (I J 4)) λu=>aV (D u) (D ((I J 0),a)) (bV a (D (.ay (a).next 0 1 1 (D 1),.row U 1 [[Y [124,124]]])) λv h=>bV h (D (.ay (h).next 0 1 1 (D 1),.row U 1 [[Y [38,38]]])) λw i=>bV i (D (.ay (i).next 0 4 1 (D 4),.row U 1 [[Y [60]],[Y [60,61]],[Y [61,61]],[Y [33,61]]])) λx k=>bV k (D (.ay (k).next 0 2 1 (D 2),.row U 1 [[Y [43]],[Y [45]]])) λy l=>bV l (D (.ay (l).next 0 3 1 (D 3),.row U 1 [[Y [42]],[Y [47]],[Y [37]]])) λz m=>bV m (bU P (m).next 131 5 [(0,v),(1,w),(2,x),(3,y),(4,z)]) λbH n=>bV n (D (.ay (n).next 0 1 1 (D 1),.row U 1 [[I J 24]])) λA o=>bV o (D (.ay (o).next 0 1 1 (D 1),.row U 1 [[I J 23]])) λB p=>bV p (D (.ay (p).next 0 4 1 (D 4),.row U 1 [[I J 19],[I J 20],[I J 21],[I J 22]])) λE c=>bV c (D (.ay (c).next 0 2 1 (D 2),.row U 1 [[I J 14],[I J 15]])) λF d=>bV d (D (.ay (d).next 0 3 1 (D 3),.row U 1 [[I J 16],[I J 17],[I J 18]])) λK e=>bV e (bU P (e).next 132 5 [(0,A),(1,B),(2,E),(3,F),(4,K)]) λL s=>kx G N N ag q bH L (I J 0) s)
def KI(N:Nat){ag au:aa}{H:ad}{r:aa×ad}(h:ma (aA P aw) N ag au H=D r):aA P aw 70 [ag,au] H=D r:=cQ N (S:=λG=>ma G N ag au H) Tryd.func70 (λG=>dO ((aN ah ((aN ah ((aN ah ((aN ah ((aN ah (Mi G N) ((aN ah ((db ah ((en (k:=λm ae H=>kx G N m (ae 0) (ae 3) (ae 5) (ae 6) (ae 7) H) ah (λae H=>ah) (λm=>Mh G N (kx G N m)))))) (aH _))))) (aH _))) (aH _))) (aH _))) (aH _))) (by delta ma;generalize kx G N N=a;revert a;refine id ?_;intro a;kernel_rfl)) h
def nq(G:ax)(N:Nat)(c e:aa)(H:ad):O:=j (al P H 45 e) λd=>a8 H (aT P H 45 c d) λa=>j (al P a 45 c) λr=>D (r,a)
def LA(G:ax)(N:Nat):∀ae H,bm P G N (o (o (o (o (bq Tryd.f40))))) (bh Tryd.f40) [] (bh Tryd.f40) ae H=nq G N (ae 4) (ae 5) H:=by
 refine bL (aH _) λae H=> ?_
 delta nq;kernel_rfl
def im(a:aa->aa->aa->aa->ad->O)(ag au:aa)(d e:aa)(c:ad):O:=a ag au d e c
def qR(G:ax)(N:Nat)(A:aa->aa->aa->aa->ad->O)(ag au:aa)(z e:aa)(H:ad):O:=aG H (G 21 [ag] H) λd B=>aP d X B (cm au) λQ K=>aP d X K (cm ag) λR m=>aP d X m (λq=>eX m (G 22 [R] m) q) λS n=>aP d X n (λq=>eX n (G 70 [Q,S] n) q) λT L=>aP d X L (bF (an P .neq 3 X T (I J 0))) λV o=>j (cU d (D V) (D (.bool U))) λW=>aV (D W) (aG o (G 22 [ag] o) λab M=>cp M [I J 0,Y [],I J 0,I J 0] λbn x=>a8 x (aT P x 61 bn ab) λp=>j (bW ag) λae=>j (aI P 59 ae 1) λaf=>j (al P p 3 af) λah=>j (an P .add 3 X ah (I J 1)) λai=>j (bW ag) λaj=>j (aI P 59 aj 1) λak=>a8 p (aT P p 3 ak ai) λv=>j (an P .add 3 X au (I J 1)) λam=>aG v (G 40 [ag,am] v) λao E=>cp E [I J 0,I J 0,Y [],Y [],I J 0,aa.ar,I J 0,I J 0,I J 0,I J 0,I J 0] λl w=>a8 w (aT P w 45 l ao) λa=>j (al P a 61 bn) λy=>aG a (G 70 [au,y] a) λap c=>j (al P c 45 e) λs=>j (al P c 45 l) λu=>bV c (bU P (c).next 41 2 [(0,s),(1,u)]) λaq h=>j (aI P 61 bn 3) λi=>j (al P h 3 i) λk=>j (ch P 45 [(0,ap),(4,aq),(5,k)]) λav=>a8 h (aT P h 45 e av) λF=>bif ((bg (al P a 61 bn) y&&X)&&((bg (al P a 45 e) s&&(bg (al P c 45 e) s&&X))&&((bg (al P a 45 l) u&&(bg (al P c 45 l) u&&X))&&((bg (al P a 3 i) k&&(bg (al P c 3 i) k&&(bg (al P h 3 i) k&&X)))&&X))))then(im A ag au z e F)else Z) (nq G N z e o)
def nr(G:ax)(N:Nat):Nat->aa->aa->aa->aa->ad->O
 |0,_,_,_,_,_=>Z
 |n+1,ag,au,a,c,H=>qR G N (nr G N n) ag au a c H
def Lz(G:ax)(N:Nat)(c:aa->aa->aa->aa->ad->O):∀ae H,bm P G N (a1 (a1 (a1 (o (o (o (bq Tryd.f40))))))) (λae H=>c (ae 0) (ae 1) (ae 4) (ae 5) H) [(0,(λae H=>nq G N (ae 4) (ae 5) H))] (bh Tryd.f40) ae H=qR G N c (ae 0) (ae 1) (ae 4) (ae 5) H:=by
 refine bL (aH _) λae H=> ?_
 delta qR im;generalize nq G N=a;revert a;refine id ?_;intro a;kernel_rfl
def hY(G:ax)(N:Nat)(ag au:aa)(c d:aa)(a:ad):O:=nr G N N ag au c d a
def hZ(G:ax)(N:Nat)(d ag:aa)(au e c:aa)(a:ad):O:=a8 a (aT P a 45 c d) (hY G N ag au e c)
def h0(G:ax)(N:Nat)(ag au:aa)(d c:aa)(a:ad):O:=cp a [I J 0,I J 0,Y [],Y [],I J 0,aa.ar,I J 0,I J 0,I J 0,I J 0,I J 0] (hZ G N c ag au d)
def hX(G:ax)(N:Nat)(ag au:aa)(H:ad):O:=cp H [I J 0,I J 0,Y [],Y [],I J 0,aa.ar,I J 0,I J 0,I J 0,I J 0,I J 0] λc a=>j (an P .eql 3 X au (I J 5)) λk=>aV (D k) (aG a (G 69 [ag] a) λh d=>a8 d (aT P d 45 c h) λe=>j (al P e 45 c) λr=>D (r,e)) (j (an P .add 3 X au (I J 1)) λi=>aG a (G 40 [ag,i] a) (h0 G N ag au c))
def Km(N:Nat){ag au:aa}{H:ad}{r:aa×ad}(h:hX (aA P aw) N ag au H=D r):aA P aw 40 [ag,au] H=D r:=cQ N (S:=λG=>hX G N ag au H) Tryd.func40 (λG=>dO ((aN ah ((aN ah ((aN ah ((aN ah (LA G N) ((db ah ((en (k:=λm ae H=>nr G N m (ae 0) (ae 1) (ae 4) (ae 5) H) ah (λae H=>ah) (λm=>Lz G N (nr G N m)))))))) (aH _))) (aH _))) (aH _))) (by delta hX h0 hZ hY;generalize nr G N N=a;revert a;refine id ?_;intro a;kernel_rfl)) h
def lb(G:ax)(ag k:aa)(l K:aa)(H:ad):O:=j (aI P 61 l 1) λo=>j (al P H 9 o) λp=>aG H (G 77 [ag,p] H) λL e=>aG e (G 40 [ag,I J 5] e) λq n=>cp n [I J 0,I J 0,Y [],Y [],I J 0,aa.ar,I J 0,I J 0,I J 0,I J 0,I J 0] λm h=>a8 h (aT P h 45 m q) λa=>j (bW ag) λs=>j (aI P 59 s 2) λu=>j (al P a 3 u) λv=>j (an P .sub 3 X v (I J 1)) λw=>j (bW ag) λx=>j (aI P 59 x 2) λy=>a8 a (aT P a 3 y w) λc=>j (al P c 45 m) λz=>bV c (bU P (c).next 41 1 [(0,z)]) λA d=>j (aI P 61 l 3) λB=>j (al P d 3 B) λE=>j (ch P 45 [(0,K),(4,A),(5,E)]) λF=>a8 d (aT P d 45 k F) λi=>j (al P i 45 k) λr=>D (r,i)
def Mg(G:ax)(N:Nat):∀ae H,bm P G N (o (o (o (o (bq Tryd.f69))))) (bh Tryd.f69) [] (bh Tryd.f69) ae H=lb G (ae 0) (ae 2) (ae 3) (ae 4) H:=by
 refine bL (aH _) λae H=> ?_
 delta lb;kernel_rfl
def iS(G:ax)(ag a:aa)(h:ad):O:=aG h (G 22 [ag] h) λv o=>cp o [I J 0,Y [],I J 0,I J 0] λe i=>a8 i (aT P i 61 e v) λk=>aG k (G 23 [ag,Y [45]] k) λs c=>aV (D s) (lb G ag a e (I J 12) c) (aG c (G 23 [ag,Y [33]] c) λu d=>aV (D u) (lb G ag a e (I J 13) d) (aG d (G 83 [ag] d) λp l=>aG l (G 82 [ag,p] l) λq m=>a8 m (aT P m 45 a q) λn=>j (al P n 45 a) λr=>D (r,n)))
def iq(G:ax)(ag:aa)(H:ad):O:=cp H [I J 0,I J 0,Y [],Y [],I J 0,aa.ar,I J 0,I J 0,I J 0,I J 0,I J 0] (iS G ag)
def KH(N:Nat){ag:aa}{H:ad}{r:aa×ad}(h:iq (aA P aw) ag H=D r):aA P aw 69 [ag] H=D r:=cQ N (S:=λG=>iq G ag H) Tryd.func69 (λG=>dO ((aN ah ((aN ah ((aN ah ((aN ah (Mg G N) (aH _))) (aH _))) (aH _))) (aH _))) (by delta iq iS;generalize lb G=a;revert a;refine id ?_;intro a;kernel_rfl)) h
def nG(G:ax)(N:Nat)(d c:aa)(H:ad):O:=j (al P H 45 d) λe=>a8 H (aT P H 45 c e) λa=>j (al P a 45 c) λr=>D (r,a)
def Mp(G:ax)(N:Nat):∀ae H,bm P G N (o (o (bq Tryd.f82))) (bh Tryd.f82) [] (bh Tryd.f82) ae H=nG G N (ae 3) (ae 4) H:=by
 refine bL (aH _) λae H=> ?_
 delta nG;kernel_rfl
def ji(a:aa->aa->aa->ad->O)(ag d e:aa)(c:ad):O:=a ag d e c
def ky(a:aa->aa->aa->ad->O)(ag d e:aa)(c:ad):O:=a ag d e c
def ir(G:ax)(p:aa->aa->aa->ad->O)(ag a:aa)(u s:aa)(q:ad):O:=aG q (G 23 [ag,Y [46]] q) λbH h=>aV (D bH) (j (bW ag) λv=>j (aI P 59 v 1) λw=>j (al P h 3 w) λx=>j (an P .add 3 X x (I J 1)) λy=>j (bW ag) λz=>j (aI P 59 z 1) λA=>a8 h (aT P h 3 A y) λd=>aG d (G 55 [ag] d) λB e=>j (al P e 45 a) λo=>bV e (bU P (e).next 41 1 [(0,o)]) λE c=>j (aI P 61 u 3) λl=>j (al P c 3 l) λm=>j (ch P 45 [(0,(I J 5)),(2,B),(4,E),(5,m)]) λF=>a8 c (aT P c 45 a F) λi=>bif ((bg (al P d 45 a) o&&(bg (al P e 45 a) o&&X))&&((bg (al P d 3 l) m&&(bg (al P e 3 l) m&&(bg (al P c 3 l) m&&X)))&&X))then(ji p ag a s i)else Z) (aG h (G 77 [ag,Y [91]] h) λS d=>aG d (G 40 [ag,I J 0] d) λH e=>cp e [I J 0,I J 0,Y [],Y [],I J 0,aa.ar,I J 0,I J 0,I J 0,I J 0,I J 0] λbn c=>a8 c (aT P c 45 bn H) λi=>aG i (G 79 [ag,Y [93]] i) λT k=>j (al P k 45 a) λK=>j (al P k 45 bn) λL=>bV k (bU P (k).next 41 2 [(0,K),(1,L)]) λM n=>j (aI P 61 u 3) λN=>j (al P n 3 N) λQ=>j (ch P 45 [(0,(I J 6)),(4,M),(5,Q)]) λR=>a8 n (aT P n 45 a R) (ky p ag a s))
def iu(G:ax)(d:aa->aa->aa->ad->O)(e ag:aa)(h i c:aa)(a:ad):O:=a8 a (aT P a 61 c e) (ir G d ag h c i)
def iv(G:ax)(a:aa->aa->aa->ad->O)(ag e:aa)(h d:aa)(c:ad):O:=cp c [I J 0,Y [],I J 0,I J 0] (iu G a d ag e h)
def jT(G:ax)(c:aa->aa->aa->ad->O)(a:ad)(ag d e:aa):O:=aG a (G 22 [ag] a) (iv G c ag d e)
def qW(G:ax)(N:Nat)(i:aa->aa->aa->ad->O)(ag e h:aa)(H:ad):O:=aG H (G 23 [ag,Y [46]] H) λc k=>aP c U k (cm ag) λl a=>aP c U a (λq=>eX a (G 23 [l,Y [91]] a) q) λm d=>j (cU c (D (.bool X)) (D m)) λn=>aV (D n) (jT G i d ag e h) (nG G N e h d)
def mb(G:ax)(N:Nat):Nat->aa->aa->aa->ad->O
 |0,_,_,_,_=>Z
 |n+1,ag,a,c,H=>qW G N (mb G N n) ag a c H
def Mo(G:ax)(N:Nat)(c:aa->aa->aa->ad->O):∀ae H,bm P G N (a1 (a1 (a1 (o (bq Tryd.f82))))) (λae H=>c (ae 0) (ae 3) (ae 4) H) [(0,(λae H=>nG G N (ae 3) (ae 4) H))] (bh Tryd.f82) ae H=qW G N c (ae 0) (ae 3) (ae 4) H:=by
 refine bL (aH _) λae H=> ?_
 delta qW jT iv iu ir ky ji;generalize nG G N=a;revert a;refine id ?_;intro a;kernel_rfl
def iw(G:ax)(N:Nat)(ag c d:aa)(a:ad):O:=mb G N N ag c d a
def ix(G:ax)(N:Nat)(ag c:aa)(a:ad):O:=cp a [I J 0,I J 0,Y [],Y [],I J 0,aa.ar,I J 0,I J 0,I J 0,I J 0,I J 0] (iw G N ag c)
def h2(G:ax)(N:Nat)(ag au:aa)(H:ad):O:=bV H (dT (H).next au) (ix G N ag)
def KO(N:Nat){ag au:aa}{H:ad}{r:aa×ad}(h:h2 (aA P aw) N ag au H=D r):aA P aw 82 [ag,au] H=D r:=cQ N (S:=λG=>h2 G N ag au H) Tryd.func82 (λG=>dO ((aN ah ((aN ah (Mp G N) ((db ah ((en (k:=λm ae H=>mb G N m (ae 0) (ae 3) (ae 4) H) ah (λae H=>ah) (λm=>Mo G N (mb G N m)))))))) (aH _))) (by delta h2 ix iw;generalize mb G N N=a;revert a;refine id ?_;intro a;kernel_rfl)) h
def nI(G:ax)(ag:aa)(H:ad):O:=cp H [I J 0,I J 0,Y [],Y [],I J 0,aa.ar,I J 0,I J 0,I J 0,I J 0,I J 0] λk c=>aG c (G 77 [ag,Y [40]] c) λp d=>aG d (G 40 [ag,I J 0] d) λo m=>cp m [I J 0,I J 0,Y [],Y [],I J 0,aa.ar,I J 0,I J 0,I J 0,I J 0,I J 0] λl e=>a8 e (aT P e 45 l o) λh=>aG h (G 79 [ag,Y [41]] h) λq a=>j (al P a 45 l) λn=>a8 a (aT P a 45 k n) λi=>j (al P i 45 k) λr=>D (r,i)
def KT(N:Nat){ag:aa}{H:ad}{r:aa×ad}(h:nI (aA P aw) ag H=D r):aA P aw 92 [ag] H=D r:=cQ N (S:=λG=>nI G ag H) Tryd.func92 (λ_=>by delta nI;kernel_rfl) h
def kz(G:ax)(ag d m:aa)(H:ad):O:=aG H (G 55 [ag] H) λl i=>aG i (G 23 [ag,Y [40]] i) λn c=>j (fk .not n) λo=>aV (D o) (j (aI P 61 m 3) λp=>j (al P c 3 p) λq=>j (ch P 45 [(0,(I J 4)),(2,l),(5,q)]) λs=>a8 c (aT P c 45 d s) λa=>j (al P a 45 d) λr=>D (r,a)) (aG c (G 93 [ag] c) λu a=>j (aI P 61 m 3) λe=>j (al P a 3 e) λh=>j (ch P 45 [(0,(I J 7)),(2,l),(4,u),(5,h)]) λv=>a8 a (aT P a 45 d v) λk=>bif ((bg (al P c 3 e) h&&(bg (al P a 3 e) h&&X))&&X)then(j (al P k 45 d) λr=>D (r,k))else Z)
def Mq(G:ax)(N:Nat):∀ae H,bm P G N (o (o (o (bq Tryd.f83)))) (bh Tryd.f83) [] (bh Tryd.f83) ae H=kz G (ae 0) (ae 2) (ae 3) H:=by
 refine bL (aH _) λae H=> ?_
 delta kz;kernel_rfl
def fZ(ag:aa)(c:ad)(h e:aa):O:=j (bW ag) λi=>j (aI P 59 i 1) λk=>j (al P c 3 k) λl=>j (an P .add 3 X l (I J 1)) λm=>j (bW ag) λn=>j (aI P 59 n 1) λo=>a8 c (aT P c 3 o m) λa=>j (aI P 61 h 2) λp=>j (al P a 3 p) λq=>j (aI P 61 h 3) λs=>j (al P a 3 s) λu=>j (ch P 45 [(0,(I J 1)),(1,q),(5,u)]) λv=>a8 a (aT P a 45 e v) λd=>j (al P d 45 e) λr=>D (r,d)
def nH(G:ax)(c d e:aa)(H:ad):O:=j (aI P 61 d 3) λh=>j (al P H 3 h) λi=>j (ch P 45 [(0,(I J 2)),(1,e),(5,i)]) λk=>a8 H (aT P H 45 c k) λa=>j (al P a 45 c) λr=>D (r,a)
def Ms(G:ax)(N:Nat):∀ae H,bm P G N (o (o (o (a1 (o (o (o (a1 (a1 (o (o (bq Tryd.f83)))))))))))) (λae H=>kz G (ae 0) (ae 2) (ae 3) H) [(0,(λae H=>kz G (ae 0) (ae 2) (ae 3) H))] (bh Tryd.f83) ae H=nH G (ae 2) (ae 3) (ae 4) H:=by
 refine bL (aH _) λae H=> ?_
 delta nH;kernel_rfl
def f_(G:ax)(ag:aa)(H:ad)(c d:aa):O:=j (bW ag) λe=>j (aI P 59 e 1) λh=>j (al P H 3 h) λi=>j (an P .add 3 X i (I J 1)) λk=>j (bW ag) λl=>j (aI P 59 l 1) λm=>a8 H (aT P H 3 m k) λa=>j (aI P 61 c 1) λn=>j (al P a 9 n) λo=>j (an P .eql 9 X o (Y [116,114,117,101])) λp=>aV (D p) (nH G d c (I J 1) a) (nH G d c (I J 0) a)
def ga(G:ax)(ag:aa)(c:ad)(l k:aa):O:=j (bW ag) λm=>j (aI P 59 m 1) λn=>j (al P c 3 n) λo=>j (an P .add 3 X o (I J 1)) λp=>j (bW ag) λq=>j (aI P 59 q 1) λs=>a8 c (aT P c 3 s p) λd=>aG d (G 53 [ag] d) λu a=>j (aI P 61 l 3) λe=>j (al P a 3 e) λh=>j (ch P 45 [(0,(I J 3)),(3,u),(5,h)]) λv=>a8 a (aT P a 45 k v) λi=>bif ((bg (al P d 3 e) h&&(bg (al P a 3 e) h&&X))&&X)then(j (al P i 45 k) λr=>D (r,i))else Z
def gb(G:ax)(ag:aa)(a:ad)(i h:aa):O:=j (bW ag) λk=>j (aI P 59 k 1) λl=>j (al P a 3 l) λm=>j (an P .add 3 X m (I J 1)) λn=>j (bW ag) λo=>j (aI P 59 o 1) λp=>a8 a (aT P a 3 p n) λc=>j (aI P 61 i 3) λq=>j (al P c 3 q) λs=>aG c (G 91 [ag,s] c) λu d=>a8 d (aT P d 45 h u) λe=>j (al P e 45 h) λr=>D (r,e)
def gd(G:ax)(ag:aa)(e:ad)(m l:aa):O:=j (bW ag) λn=>j (aI P 59 n 1) λo=>j (al P e 3 o) λp=>j (an P .add 3 X p (I J 1)) λq=>j (bW ag) λs=>j (aI P 59 s 1) λu=>a8 e (aT P e 3 u q) λh=>aG h (G 92 [ag] h) λv i=>bV i (bU P (i).next 41 1 [(0,v)]) λw a=>j (aI P 61 m 3) λc=>j (al P a 3 c) λd=>j (ch P 45 [(0,(I J 10)),(4,w),(5,d)]) λx=>a8 a (aT P a 45 l x) λk=>bif ((bg (al P h 3 c) d&&(bg (al P i 3 c) d&&(bg (al P a 3 c) d&&X)))&&X)then(j (al P k 45 l) λr=>D (r,k))else Z
def fN(G:ax)(ag:aa)(a:ad)(p i:aa):O:=j (bW ag) λq=>j (aI P 59 q 1) λs=>j (al P a 3 s) λu=>j (an P .add 3 X u (I J 1)) λv=>j (bW ag) λk=>j (aI P 59 k 1) λl=>a8 a (aT P a 3 l v) λd=>aG d (G 77 [ag,Y [40]] d) λw e=>aG e (G 79 [ag,Y [41]] e) λx c=>j (aI P 61 p 3) λm=>j (al P c 3 m) λn=>j (ch P 45 [(0,(I J 11)),(5,n)]) λo=>a8 c (aT P c 45 i o) λh=>j (al P h 45 i) λr=>D (r,h)
def fw(G:ax)(a:ad)(ag e:aa):O:=aG a (G 92 [ag] a) λh c=>a8 c (aT P c 45 e h) λd=>j (al P d 45 e) λr=>D (r,d)
def fO(G:ax)(ag c d:aa)(a:ad):O:=kz G ag c d a
def fx(G:ax)(ag c:aa)(e d:aa)(a:ad):O:=aV (D d) (fw G a ag c) (fO G ag c e a)
def fP(G:ax)(a:ad)(ag c d:aa):O:=aG a (G 23 [ag,Y [40]] a) (fx G ag c d)
def fy(G:ax)(ag d:aa)(c e:aa)(a:ad):O:=aV (D e) (fN G ag a d c) (fP G a ag c d)
def fQ(G:ax)(a:ad)(ag d c:aa):O:=aG a (G 23 [ag,Y [114,101,97,100]] a) (fy G ag d c)
def fz(G:ax)(ag d:aa)(c e:aa)(a:ad):O:=aV (D e) (gd G ag a d c) (fQ G a ag d c)
def fR(G:ax)(a:ad)(ag d c:aa):O:=aG a (G 23 [ag,Y [108,101,110]] a) (fz G ag d c)
def fA(G:ax)(ag d:aa)(c e:aa)(a:ad):O:=aV (D e) (gb G ag a d c) (fR G a ag d c)
def fS(G:ax)(a:ad)(ag d c:aa):O:=aG a (G 23 [ag,Y [110,101,119]] a) (fA G ag d c)
def fB(G:ax)(ag d:aa)(c e:aa)(a:ad):O:=aV (D e) (ga G ag a d c) (fS G a ag d c)
def fC(G:ax)(H:ad)(ag c a:aa):O:=aG H (G 23 [ag,Y [110,117,108,108]] H) (fB G ag c a)
def mc(G:ax)(ag a:aa)(c d:aa)(H:ad):O:=aV (D d) (f_ G ag H c a) (fC G H ag c a)
def Mr(G:ax)(N:Nat):∀ae H,bm P G N (o (o (o (a1 (a1 (o (o (bq Tryd.f83)))))))) (λae H=>kz G (ae 0) (ae 2) (ae 3) H) [(0,(λae H=>kz G (ae 0) (ae 2) (ae 3) H))] (bh Tryd.f83) ae H=mc G (ae 0) (ae 2) (ae 3) (ae 28) H:=by
 refine bL ((dt ah ((aN ah ((aN ah ((aN ah (Ms G N) (aH _))) (aH _))) (aH _))) (aH _))) λae H=> ?_
 delta mc fC fB fS fA fR fz fQ fy fP fx fO fw fN gd gb ga f_;generalize kz G=a;generalize nH G=c;revert a c;refine id ?_;intro a c;kernel_rfl
def fT(G:ax)(ag c:aa)(d e:aa)(a:ad):O:=mc G ag c d e a
def fD(G:ax)(ag c:aa)(d e:aa)(a:ad):O:=mc G ag c d e a
def fU(G:ax)(a:ad)(ag c d:aa):O:=aG a (G 23 [ag,Y [102,97,108,115,101]] a) (fD G ag c d)
def fE(G:ax)(ag c:aa)(d e:aa)(a:ad):O:=aV (D e) (fT G ag c d e a) (fU G a ag c d)
def fF(G:ax)(a:ad)(ag c d:aa):O:=aG a (G 23 [ag,Y [116,114,117,101]] a) (fE G ag c d)
def e8(G:ax)(ag:aa)(a:ad)(d c e:aa):O:=aV (D e) (fZ ag a d c) (fF G a ag c d)
def e9(G:ax)(c ag:aa)(h e d:aa)(a:ad):O:=j (cU c (D d) (D (.bool U))) (e8 G ag a h e)
def e_(G:ax)(a ag:aa)(h e d:aa)(c:ad):O:=aP a X c (bF (an P .eql 3 X d (I J 2))) (e9 G a ag h e)
def fa(G:ax)(c ag:aa)(h e d:aa)(a:ad):O:=aP c X a (qr (al P a 3 d)) (e_ G c ag h e)
def fb(G:ax)(c ag:aa)(e a:aa)(d:ad):O:=aP a X d (bF (aI P 61 c 0)) (fa G a ag c e)
def fV(G:ax)(ag d c:aa)(a:ad):O:=aG a (G 21 [ag] a) (fb G d ag c)
def fW(G:ax)(e ag:aa)(d c:aa)(a:ad):O:=a8 a (aT P a 61 c e) (fV G ag c d)
def fX(G:ax)(ag c d:aa)(a:ad):O:=cp a [I J 0,Y [],I J 0,I J 0] (fW G d ag c)
def fY(G:ax)(ag c:aa)(a:ad):O:=aG a (G 22 [ag] a) (fX G ag c)
def fv(G:ax)(ag:aa)(H:ad):O:=cp H [I J 0,I J 0,Y [],Y [],I J 0,aa.ar,I J 0,I J 0,I J 0,I J 0,I J 0] (fY G ag)
def KP(N:Nat){ag:aa}{H:ad}{r:aa×ad}(h:fv (aA P aw) ag H=D r):aA P aw 83 [ag] H=D r:=cQ N (S:=λG=>fv G ag H) Tryd.func83 (λG=>dO ((aN ah ((aN ah ((aN ah (Mq G N) ((db ah ((aN ah ((dt ah (aH _) ((aN ah (Mr G N) (aH _))))) (aH _))))))) (aH _))) (aH _))) (by delta fv fY fX fW fV fb fa e_ e9 e8 fF fE fU fD fT fZ;generalize mc G=a;revert a;refine id ?_;intro a;kernel_rfl)) h
def kA(G:ax)(ag au:aa)(H:ad):O:=cp H [I J 0,I J 0,Y [],Y [],I J 0,aa.ar,I J 0,I J 0,I J 0,I J 0,I J 0] λk n=>aG n (G 23 [ag,Y [91]] n) λL a=>j (fk .not L) λM=>aV (D M) (aG a (G 55 [ag] a) λs c=>j (ch P 40 [(0,s)]) λu=>j (ch P 45 [(0,(I J 8)),(3,u),(5,au)]) λv=>a8 c (aT P c 45 k v) λe=>j (al P e 45 k) λr=>D (r,e)) (j (bW ag) λw=>j (aI P 59 w 1) λbH=>j (al P a 3 bH) λx=>j (an P .add 3 X x (I J 1)) λy=>j (bW ag) λz=>j (aI P 59 z 1) λA=>a8 a (aT P a 3 A y) λc=>aG c (G 53 [ag] c) λB e=>cp e [Y [],I J 0] λd p=>a8 p (aT P p 40 d B) λq=>aG q (G 27 [ag,Y [93]] q) λN l=>aG l (G 92 [ag] l) λE h=>j (al P h 40 d) λi=>bV h (bU P (h).next 41 1 [(0,E)]) λF m=>j (ch P 45 [(0,(I J 9)),(3,i),(4,F),(5,au)]) λK=>a8 m (aT P m 45 k K) λo=>bif ((bg (al P l 40 d) i&&(bg (al P h 40 d) i&&(bg (al P m 40 d) i&&X)))&&X)then(j (al P o 45 k) λr=>D (r,o))else Z)
def KS(N:Nat){ag au:aa}{H:ad}{r:aa×ad}(h:kA (aA P aw) ag au H=D r):aA P aw 91 [ag,au] H=D r:=cQ N (S:=λG=>kA G ag au H) Tryd.func91 (λ_=>by delta kA;kernel_rfl) h
def hG(G:ax)(N:Nat)(ag c:aa)(H:ad):O:=aG H (G 79 [ag,Y [41]] H) λd a=>D (c,a)
def Mx(G:ax)(N:Nat):∀ae H,bm P G N (o (o (o (o (o (o (bq Tryd.f93))))))) (bh Tryd.f93) [] (bh Tryd.f93) ae H=hG G N (ae 0) (ae 3) H:=by
 refine bL (aH _) λae H=> ?_
 delta hG;kernel_rfl
def nJ(G:ax)(N:Nat)(i:aa->aa->ad->O)(ag h:aa)(H:ad):O:=aG H (G 23 [ag,Y [44]] H) λbH a=>aV (D bH) (j (bW ag) λl=>j (aI P 59 l 1) λm=>j (al P a 3 m) λn=>j (an P .add 3 X n (I J 1)) λo=>j (bW ag) λp=>j (aI P 59 p 1) λq=>a8 a (aT P a 3 q o) λc=>aG c (G 40 [ag,I J 0] c) λs d=>bV d (bU P (d).next 41 1 [(0,s)]) λu e=>aG e (cR P e [41,41] h u) λv k=>i ag v k) (hG G N ag h a)
def nK(G:ax)(N:Nat):Nat->aa->aa->ad->O
 |0,_,_,_=>Z
 |n+1,ag,a,H=>nJ G N (nK G N n) ag a H
def Mw(G:ax)(N:Nat)(c:aa->aa->ad->O):∀ae H,bm P G N (a1 (a1 (a1 (o (o (o (o (o (bq Tryd.f93))))))))) (λae H=>c (ae 0) (ae 3) H) [(0,(λae H=>hG G N (ae 0) (ae 3) H))] (bh Tryd.f93) ae H=nJ G N c (ae 0) (ae 3) H:=by
 refine bL (aH _) λae H=> ?_
 delta nJ;generalize hG G N=a;revert a;refine id ?_;intro a;kernel_rfl
def h3(G:ax)(N:Nat)(ag:aa)(H:ad):O:=aG H (G 77 [ag,Y [40]] H) λm d=>aG d (G 23 [ag,Y [41]] d) λl a=>aV (D l) (aG a (G 79 [ag,Y [41]] a) λn c=>D (aa.ar,c)) (aG a (G 40 [ag,I J 0] a) λi c=>bV c (bU P (c).next 41 1 [(0,i)]) λj e=>aG e (cR P e [41,41] aa.ar j) λk h=>nK G N N ag k h)
def KU(N:Nat){ag:aa}{H:ad}{r:aa×ad}(h:h3 (aA P aw) N ag H=D r):aA P aw 93 [ag] H=D r:=cQ N (S:=λG=>h3 G N ag H) Tryd.func93 (λG=>dO ((aN ah ((aN ah ((aN ah ((aN ah ((aN ah ((aN ah (Mx G N) ((db ah ((en (k:=λm ae H=>nK G N m (ae 0) (ae 3) H) ah (λae H=>ah) (λm=>Mw G N (nK G N m)))))))) (aH _))) (aH _))) (aH _))) (aH _))) (aH _))) (by delta h3;generalize nK G N N=a;revert a;refine id ?_;intro a;kernel_rfl)) h
