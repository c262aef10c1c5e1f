/- Part. -/
import Derived.Test.YtghmbpmaafnodaaGreatDoorMA
set_option linter.defProp false
open Option renaming some→I,none→u,getD_some→rs,map_some→JK
open Bool renaming true→Y,false→X,and_eq_true→de,or_eq_true→kl,not_eq_true'→zA,false_eq_true→FG
open Array renaming getD_eq_getD_getElem?→ef,getElem?_eq_some_iff→mn,replicate→CD,all_eq_true'→GH
open List renaming cons_append→fg,mem_cons→hi,all_eq_true→ij,append_of_mem→jk,mem_append→lm,nil_append→pq,getElem?_append_right→uv,mem_range→vw,getElem?_append_left→wx,getElem?_eq_some_iff→xy,append_eq_append_iff→yz,range→AB,mem_map→BC,contains_iff_mem→DE,pairwise_append→EF,mem_filter→IJ,append_nil→KL
open Nat renaming le_trans→gh,lt_of_lt_of_le→tu,strongRecOn→HI,lt_or_ge→LM
namespace Go.bk
section
variable {P:Program}{ρ:Env}{H:ad}{w:World}{V:bi}{a:Act}
def i8(ρ:Env)(w:World)(a:Loc):b_->Prop
 | .row ro esz els=>hc ρ w a ro esz els
 | .map es=>zF ρ w a es
 | .dead=>True
def i8.frame{p:Env}{o:World}{a:Loc}{b:b_}(h:i8 ρ w a b)(d:ρ.le p)(n:o.heap[a.block]? =w.heap[a.block]?):i8 p o a b:=by
 cases b with
 |row ro esz els=>
  obtain⟨k,c,t,q,l,m,z⟩:=h;refine⟨k,c,t,q,by rw[n];exact l,m,λi e s=> ?_⟩;obtain⟨aX,A⟩:=z i e s;refine⟨aX,λj v y=> ?_⟩;obtain⟨B,x,C,E⟩:=A j v y;exact⟨B,x,C,E.mono d⟩
 |map es=>
  obtain⟨ents,clock,k,l,m⟩:=h;exact⟨ents,clock,by rw[n];exact k,l.mono d,m.mono d⟩
 |dead=>trivial
def i8.lt{a:Loc}{b:b_}(h:i8 ρ w a b)(d:b.k6=Y):a.block<w.heap.size:=by
 cases b with
 |row ro esz els=>obtain⟨_,c,t,j,i,_⟩:=h;exact kk i
 |map es=>obtain⟨ents,clock,e,_⟩:=h;exact kk e
 |dead=>cases d
def Rel.grow{p:Env}{y:World}(h:Rel ρ H w)(i:ρ.le p)(v:∀b,b<w.heap.size->y.heap[b]? =w.heap[b]?):Rel p H y:=by
 refine⟨λl ro esz els e=> ?_,λl es e=> ?_,λl l' a n q s z ap aE=> ?_⟩
 ·obtain⟨a,d,m⟩:=h.row l ro esz els e;refine⟨a,i _ _ d,?_⟩;have:=m;obtain⟨_,c,t,A,o,_⟩:=this;exact i8.frame (b:= .row ro esz els) m i (v _ (kk o))
 ·obtain⟨a,d,m⟩:=h.map l es e;refine⟨a,i _ _ d,?_⟩;have:=m;obtain⟨_,_,o,_⟩:=this;exact i8.frame (b:= .map es) m i (v _ (kk o))
 ·have x:∀k a,H.live k->p k=I a->ρ k=I a:=λk a j e=>by
   rcases j with⟨ro,esz,els,j⟩|⟨es,j⟩
   ·obtain⟨n,d,_⟩:=h.row _ _ _ _ j;rw[i _ _ d]at e;rw[d];exact e
   ·obtain⟨n,d,_⟩:=h.map _ _ j;rw[i _ _ d]at e;rw[d];exact e
  exact h.apart l l' a n q s z (x _ _ q.live ap) (x _ _ s aE)
def Rel.Br(h:Rel ρ H w){l:Nat}(ak:H.live l):∃a,ρ l=I a/\a.block<w.heap.size:=by
 rcases ak with⟨ro,esz,els,d⟩|⟨es,d⟩
 ·obtain⟨a,e,_,c,t,j,i,_⟩:=h.row _ _ _ _ d;exact⟨a,e,kk i⟩
 ·obtain⟨a,e,_,_,i,_⟩:=h.map _ _ d;exact⟨a,e,kk i⟩
def PO{o:Oper}{l:Nat}{v:aa}{b:b_}(h:jK P o.op V l=I (v,b))(E:eg ρ V a)(z:ρ l=u)(w:World):
  ∃x d e c,(execOp a.eval o).run P w= .ok (.value x) d/\bz e v x/\ρ.le e/\(∀k,k≠l->e k=ρ k)/\e l=I c/\w.heap.size<=c.block/\b.k6=Y/\i8 e d c b/\
   d.os=w.os/\d.tape=w.tape/\d.output=w.output/\w.heap.size<=d.heap.size/\∀k,k<w.heap.size->d.heap[k]? =w.heap[k]? :=by
 unfold jK oS at h;split at h
 ·rename_i G H' s;split at h
  ·rename_i C;split at h
   ·rename_i cN i;split at h
    ·rename_i j;simp only[aT,bS]at h;obtain⟨rfl,rfl⟩:=h;obtain⟨x,d,e,ap,aE,bB⟩:=PM (Rel.empty ρ w l) z s E;have n:∀k,¬iM ρ ⟨.leaf,l⟩ k:=by
      rintro k ⟨l',c,q,_,_⟩;have A:(⟨.leaf,l⟩:ad).get l'=none:=by unfold ad.get;split<;>first|exact bG.s_ _|rfl
      rcases q with⟨_,_,h⟩|⟨_,h⟩<;>(rw[A]at h;cases h)
     have B:H'.rw l:=by
      cases cN with
      |row ro esz els=>cases ro with
       |true=>cases j
       |false=>exact .inl ⟨_,_,i⟩
      |map es=>exact .inr ⟨_,i⟩
      |dead=>cases j
     have y:∃c,e l=I c/\i8 e d c cN:=by
      cases cN with
      |row ro esz els=>exact bB.rel.row _ _ _ _ i
      |map es=>exact bB.rel.map _ _ i
      |dead=>cases j
     obtain⟨c,p,F⟩:=y;refine⟨x,d,e,c,ap,aE,bB.le,λk m=>bB.aP k ?_,p,?_,j,F,bB.os,bB.tape,bB.output,bB.size,λk m=>bB.frame k m (n k)⟩
     ·rw[C];show k<l\/_;omega
     ·exact(bB.own c.block ⟨l,c,B,p,rfl⟩).resolve_left (n _)
    ·cases h
   ·cases h
  ·cases h
 ·cases h
structure fC(ρ0:Env)(H0:ad)(w0:World)(N:Nat)(iF:Nat->Option b_)(ρ:Env)(H:ad)(w:World):Prop where
 tM:Rel ρ0 H0 w0
 le:ρ0.le ρ
 next:H0.next<=H.next
 aP:∀l,l<H0.next\/N<=l->ρ l=ρ0 l
 rel:Rel ρ H w
 os:w.os=w0.os
 tape:w.tape=w0.tape
 output:w.output=w0.output
 size:w0.heap.size<=w.heap.size
 frame:∀b,b<w0.heap.size->¬iM ρ0 H0 b->w.heap[b]? =w0.heap[b]?
 own:∀b,iM ρ H b->iM ρ0 H0 b\/w0.heap.size<=b
 ro:∀l esz els,H.get l=some (.row true esz els)->H0.get l=some (.row true esz els)
 fresh:∀l,H.next<=l->l<N->iF l=none->ρ l=none
 jz:∀l b,iF l=some b->H.next<=l/\l<N/\b.k6=true/\∃loc,ρ l=some loc/\i8 ρ w loc b/\w0.heap.size<=loc.block/\¬iM ρ H loc.block
 sep:∀l l' b cN loc a,iF l=some b->iF l'=some cN->l≠l'->ρ l=some loc->ρ l'=some a->loc.block≠a.block
variable {ρ0:Env}{H0:ad}{w0:World}{N:Nat}{iF:Nat->Option b_}
def fC.start(h:Rel ρ0 H0 w0)(c:DT ρ0 H0.next N):fC ρ0 H0 w0 N (λ_=>u) ρ0 H0 w0:=
 ⟨h,ρ0.le_refl,aV _,λ_ _=>rfl,h,rfl,rfl,rfl,aV _,λ_ _ _=>rfl,λ_ h=> .inl h,λ_ _ _ h=>h,λl a b _=>c l a b,λ_ _ h=>by simp at h,λ_ _ _ _ _ _ h=>by simp at h⟩
def fC.done(m:fC ρ0 H0 w0 N iF ρ H w)(a:H.next=N):Step ρ0 H0 w0 ρ H w:=
 ⟨m.le,m.next,λl ak=>m.aP l (by rw[<-a];exact ak),m.rel,m.os,m.tape,m.output,m.size,m.frame,m.own,m.ro⟩
def fC.step{B:Env}{H':ad}{A:World}(m:fC ρ0 H0 w0 N iF ρ H w)(s:Step ρ H w B H' A)(E:H'.next<=N)(K:∀l b,iF l=I b->H'.next<=l):fC ρ0 H0 w0 N iF B H' A where
 tM:=m.tM
 le:=Env.le_trans m.le s.le
 next:=gh m.next s.next
 aP:=λl ak=>(s.aP l (ak.imp (λh=>tu h m.next) (λh=>gh E h))).trans (m.aP l ak)
 rel:=s.rel
 os:=s.os.trans m.os
 tape:=s.tape.trans m.tape
 output:=s.output.trans m.output
 size:=gh m.size s.size
 frame:=λb i p=>by
  rw[s.frame b (tu i m.size) (λd=>(m.own b d).elim p (λo=>ae)),m.frame b i p]
 own:=λb i=>(s.own b i).elim (λd=>m.own b d) (λo=> .inr (gh m.size o))
 ro:=λl esz els e=>m.ro l esz els (s.ro l esz els e)
 fresh:=λl a b c=>by rw[s.aP l (.inr a)];exact m.fresh l (gh s.next a) b c
 jz:=λl b h=>by
  obtain⟨R,L,v,q,j,x,M,y⟩:=m.jz l b h;have F:=x.lt v;refine⟨K l b h,L,v,q,s.le _ _ j,x.frame s.le (s.frame _ F y),M,λd=> ?_⟩;rcases s.own _ d with h|h
  ·exact y h
  ·omega
 sep:=λl l' b cN q O h aU G e C=>by
  obtain⟨_,_,_,P,j,_⟩:=m.jz l b h;obtain⟨_,_,_,Q,z,_⟩:=m.jz l' cN aU;have k:=s.le _ _ j;rw[e]at k;cases k;have n:=s.le _ _ z;rw[C]at n;cases n;exact m.sep l l' b cN _ _ h aU G j z
def fC.early{s:Env}{q:World}{l:Nat}{b:b_}{C:Loc}(m:fC ρ0 H0 w0 N iF ρ H w)(ak:H.next<=l)(P:l<N)(ai:iF l=u)
  (j:ρ.le s) (A:∀k,k≠l->s k=ρ k) (F:s l=I C) (R:w.heap.size<=C.block) (ab:b.k6=Y) (Q:i8 s q C b) (V:q.os=w.os) (ae:q.tape=w.tape) (W:q.output=w.output)
  (ad:w.heap.size<=q.heap.size) (E:∀k,k<w.heap.size->q.heap[k]? =w.heap[k]?):fC ρ0 H0 w0 N (λk=>if k=l then I b else iF k) s H q:=by
 have T:∀k i,H.live k->s k=I i->ρ k=I i:=λk i A e=>by
  obtain⟨M,p,_⟩:=m.rel.Br A;have:=j _ _ p;rw[e]at this;cases this;exact p
 have K:∀k,iM s H k->iM ρ H k:=by
  rintro k ⟨l',i,a,c,o⟩;exact⟨l',i,a,T _ _ a.live c,o⟩
 have aa:∀k,iM ρ H k->k<w.heap.size:=by
  rintro k ⟨l',i,a,c,o⟩;obtain⟨M,p,L⟩:=m.rel.Br a.live;rw[c]at p;cases p;rw[<-o];exact L
 refine⟨m.tM,Env.le_trans m.le j,m.next,λk h=> ?_,m.rel.grow j E,V.trans m.os,ae.trans m.tape,W.trans m.output,gh m.size ad,λk a c=> ?_,
  λk h=>m.own k (K k h),m.ro,λk a c o=> ?_,λk cN h=> ?_,λk y bf bo M aj h aU S e z=> ?_⟩
 ·rw[A k (by have:=m.next;omega)];exact m.aP k h
 ·rw[E k (tu a m.size)];exact m.frame k a c
 ·by_cases d:k=l
  ·subst d;simp at o
  ·simp only[d,if_false]at o;rw[A k d];exact m.fresh k a c o
 ·by_cases d:k=l
  ·subst d;simp only[if_true,aT]at h;subst h;exact⟨ak,P,ab,C,F,Q,gh m.size R,λG=>by have:=aa _ (K _ G);omega⟩
  ·simp only[d,if_false]at h;obtain⟨p,L,v,i,n,x,af,ah⟩:=m.jz k cN h;exact⟨p,L,v,i,j _ _ n,x.frame j (E _ (x.lt v)),af,λG=>ah (K _ G)⟩
 ·by_cases d:k=l
  ·by_cases B:y=l
   ·omega
   ·subst d;simp only[B,if_false]at aU;obtain⟨_,_,v,i,n,x,_,_⟩:=m.jz y bo aU;have:=j _ _ n;rw[z]at this;cases this;rw[F]at e;cases e;have:=x.lt v;omega
  ·by_cases B:y=l
   ·subst B;simp only[d,if_false]at h;obtain⟨_,_,v,i,n,x,_,_⟩:=m.jz k bf h;have:=j _ _ n;rw[e]at this;cases this;rw[F]at z;cases z;have:=x.lt v;omega
   ·simp only[d,if_false]at h;simp only[B,if_false]at aU;obtain⟨_,_,_,al,n,_⟩:=m.jz k bf h;obtain⟨_,_,_,am,O,_⟩:=m.jz y bo aU;have a:=j _ _ n;rw[e]at a;cases a;have c:=j _ _ O;rw[z]at c;cases c;exact m.sep k y bf bo _ _ h aU S n O
def fC.Oj{b:b_}(m:fC ρ0 H0 w0 N iF ρ H w)(E:iF H.next=I b):fC ρ0 H0 w0 N (λk=>if k=H.next then u else iF k) ρ (H.push b) w:=by
 obtain⟨_,W,P,p,j,G,Q,R⟩:=m.jz _ _ E;have A:∀k,(H.push b).rw k->k≠H.next->H.rw k:=λk h a=>by simpa [ad.rw,ad.dv a]using h
 have F:∀k,(H.push b).live k->k≠H.next->H.live k:=λk h a=>by simpa [ad.live,ad.dv a]using h
 have B:∀k c,H.live k->ρ k=I c->c.block≠p.block:=by
  intro k c a e x;by_cases z:H.rw k
  ·exact R ⟨k,c,z,e,x⟩
  ·rcases a with⟨ro,esz,els,a⟩|⟨es,a⟩
   ·cases ro with
    |false=>exact z (.inl ⟨_,_,a⟩)
    |true=>
     have M:=m.ro _ _ _ a;obtain⟨aa,aX,K⟩:=m.tM.Br (.inl ⟨_,_,_,M⟩);have:=m.le _ _ aX;rw[e]at this;cases this;omega
   ·exact z (.inr ⟨_,a⟩)
 have C:∀k,iM ρ (H.push b) k->iM ρ H k\/k=p.block:=by
  rintro k ⟨l',c,v,n,o⟩;by_cases ak:l'=H.next
  ·subst ak;rw[j]at n;cases n;exact .inr o.symm
  ·exact .inl ⟨l',c,A _ v ak,n,o⟩
 refine⟨m.tM,m.le,by have:=m.next;simp;omega,m.aP,⟨λl ro esz els h=> ?_,λl es h=> ?_,λl l' q s h aU y e i=> ?_⟩,m.os,m.tape,m.output,m.size,m.frame,
  λk h=> ?_,λl esz els h=>m.ro l esz els (ad.Mi (b_.k6.ro P) l esz els h),λl v n o=> ?_,λl cN h=> ?_,λl l' bf bo q s h aU y e i=> ?_⟩
 ·by_cases ak:l=H.next
  ·subst ak;rw[ad.a_]at h;simp only[aT]at h;subst h;exact⟨p,j,G⟩
  ·rw[ad.dv ak]at h;exact m.rel.row _ _ _ _ h
 ·by_cases ak:l=H.next
  ·subst ak;rw[ad.a_]at h;simp only[aT]at h;subst h;exact⟨p,j,G⟩
  ·rw[ad.dv ak]at h;exact m.rel.map _ _ h
 ·by_cases ak:l=H.next
  ·by_cases d:l'=H.next
   ·omega
   ·subst ak;rw[j]at e;cases e;exactλx=>B l' s (F _ aU d) i x.symm
  ·by_cases d:l'=H.next
   ·subst d;rw[j]at i;cases i;exact B l q (A _ h ak).live e
   ·exact m.rel.apart l l' q s (A _ h ak) (F _ aU d) y e i
 ·rcases C k h with h|rfl
  ·exact m.own k h
  ·exact .inr Q
 ·simp only[ad.bb]at v;have ak:l≠H.next:=ae
  simp only[ak,if_false]at o;exact m.fresh l ae n o
 ·by_cases ak:l=H.next
  ·simp[ak]at h
  ·simp only[ak,if_false]at h;obtain⟨aX,K,S,c,L,T,V,hH⟩:=m.jz l cN h;refine⟨by simp;omega,K,S,c,L,T,V,λO=> ?_⟩;rcases C _ O with aU|aU
   ·exact hH aU
   ·exact m.sep l H.next cN b c p h E ak L j aU
 ·by_cases ak:l=H.next
  ·simp[ak]at h
  ·by_cases d:l'=H.next
   ·simp[d]at aU
   ·simp only[ak,if_false]at h;simp only[d,if_false]at aU;exact m.sep l l' bf bo q s h aU y e i
end
def lM(V:bi)(c:Call):Option (Nat×List aa):=
 match c.callee with
 | .value f=>match ck V f with
  |some (.func (.func g) first a)=>match ia V c.args.toList with
   |some d=>I (g,first++d++a)
   |none=>u
  |_=>u
 |_=>u
inductive K where
 |skip
 |pure (v:aa)
 |read (v:aa)
 |new (v:aa) (b:b_)
 |ea (v:aa) (H:ad)
def K.val:K->aa
 | .skip=> .tuple []
 | .pure v=>v
 | .read v=>v
 | .new v _=>v
 | .ea v _=>v
def K.heap(H:ad):K->ad
 | .new _ b=>H.push b
 | .ea _ H'=>H'
 |_=>H
def K.fu:K->Bool
 | .new _ _=>Y
 | .ea _ _=>Y
 |_=>X
abbrev e:=Nat->List aa->ad->Option (aa×ad)
def Bc:Option aa->Option K
 |some v=>I (.pure v)
 |none=>u
def qT:Option aa->Option K
 |some v=>I (.read v)
 |none=>u
def Jl:Option (aa×b_)->Option K
 |some (v,b)=>I (.new v b)
 |none=>u
def qN(H:ad):Option (aa×ad)->Option K
 |some (v,H')=>if H.next<=H'.next then I (.ea v H')else u
 |none=>u
inductive O0 where
 |pure|read|both|new|write|call
def cls:Op->O0
 | .load .. => .read
 | .lookup .. => .read
 | .alloc _=> .new
 | .box .. => .new
 | .buildSlice .. => .new
 | .makeMap .. => .new
 | .makeSlice .. => .new
 | .store .. => .write
 | .mapUpdate .. => .write
 | .insert .. => .write
 | .convert .. => .both
 | .call c=>match c.callee with
  | .builtin .append=> .write
  | .builtin _=> .both
  |_=> .call
 |_=> .pure
def step1(P:Program)(call:e)(o:Op)(V:bi)(H:ad):Option K:=
 match cls o with
 | .pure=>Bc (jf P o V)
 | .read=>qT (hy P o V H)
 | .both=>match jf P o V with
  |some v=>I (.pure v)
  |none=>qT (hy P o V H)
 | .new=>Jl (jK P o V H.next)
 | .write=>qN H (kY P o V H)
 | .call=>match o with
  | .call c=>match lM V c with
   |some (g,a)=>qN H (call g a H)
   |none=>u
  |_=>u
def oF(o:Op):Bool:=match cls o with
 | .new=>Y
 | .write=>Y
 | .call=>Y
 |_=>X
def aa_{P:Program}{call:e}{o:Op}{V:bi}{H:ad}{k:K}(h:step1 P call o V H=I k)(c:k.fu=Y):oF o=true:=by
 unfold step1 at h;unfold oF;split at h
 ·unfold Bc at h;split at h
  ·simp only[aT]at h;subst h;cases c
  ·cases h
 ·unfold qT at h;split at h
  ·simp only[aT]at h;subst h;cases c
  ·cases h
 ·split at h
  ·simp only[aT]at h;subst h;cases c
  ·unfold qT at h;split at h
   ·simp only[aT]at h;subst h;cases c
   ·cases h
 ·rename_i a;rw[a]
 ·rename_i a;rw[a]
 ·rename_i a;rw[a]
def lG(P:Program)(call:e)(o:Op)(V:bi)(H:ad):K->Prop
 | .skip=>False
 | .pure v=>jf P o V=I v
 | .read v=>hy P o V H=I v
 | .new v b=>jK P o V H.next=I (v,b)
 | .ea v H'=>H.next<=H'.next/\(kY P o V H=I (v,H')\/∃c g a,o= .call c/\lM V c=I (g,a)/\call g a H=I (v,H'))
def aba{P:Program}{call:e}{o:Op}{V:bi}{H:ad}{k:K}(h:step1 P call o V H=I k):lG P call o V H k:=by
 unfold step1 at h;split at h
 ·unfold Bc at h;split at h
  ·rename_i v a;simp only[aT]at h;subst h;exact a
  ·cases h
 ·unfold qT at h;split at h
  ·rename_i v a;simp only[aT]at h;subst h;exact a
  ·cases h
 ·split at h
  ·rename_i v a;simp only[aT]at h;subst h;exact a
  ·unfold qT at h;split at h
   ·rename_i v a;simp only[aT]at h;subst h;exact a
   ·cases h
 ·unfold Jl at h;split at h
  ·rename_i v b a;simp only[aT]at h;subst h;exact a
  ·cases h
 ·unfold qN at h;split at h
  ·rename_i v H' a;split at h
   ·rename_i d;simp only[aT]at h;subst h;exact⟨d,.inl a⟩
   ·cases h
  ·cases h
 ·split at h
  ·rename_i c _;split at h
   ·rename_i g j i;unfold qN at h;split at h
    ·rename_i v H' a;split at h
     ·rename_i d;simp only[aT]at h;subst h;exact⟨d,.inr ⟨c,g,j,rfl,i,a⟩⟩
     ·cases h
    ·cases h
   ·cases h
  ·cases h
section congr
variable {P:Program}{V bh:bi}
def qs:∀{xs:List Operand},(∀x∈xs,ck V x=ck bh x)->ia V xs=ia bh xs
 |[],_=>rfl
 |x::xs,h=>by
  simp only[ia,h x (by simp),qs (xs:=xs) λy a=>h y (by simp[a])]
def zV:∀{xs:List (Nat×Operand)},(∀x∈xs.map (·.2),ck V x=ck bh x)->je V xs=je bh xs
 |[],_=>rfl
 |(i,x)::xs,h=>by
  simp only[je,h x (by simp),zV (xs:=xs) λy a=>h y (by simp at a ⊢;exact .inr a)]
def zY{x:Option Operand}(h:∀y,x=I y->ck V y=ck bh y):kd V x=kd bh x:=by
 cases x with
 |none=>rfl
 |some x=>simp only[kd,h x rfl]
def PX{o:Op}(h:∀x∈o.operands,ck V x=ck bh x):jf P o V=jf P o bh:=by
 cases o<;>simp only[jf,Op.operands]at h ⊢ <;>first
  |rfl
  |(simp at h;simp[h];done)
  |skip
 ·rename_i t k;rw[zV λx a=>h x (by simpa using a)]
 ·rename_i fn f c;rw[qs λx a=>h x (by simp at a ⊢;exact .inl a),qs (xs:=c.toList) λx a=>h x (by simp at a ⊢;exact .inr a)]
 ·rename_i t x lo i j;rw[h x (by simp),zY (x:=lo) λy d=>h y (by simp[d]),zY (x:=i) λy d=>h y (by simp[d]),zY (x:=j) λy d=>h y (by simp[d])]
 ·rename_i c;cases e:c.callee with
  |builtin b=>
   simp only[Call.operands,e]at h ⊢;rw[qs λx a=>h x (by simpa using a)]
  |value f=>rfl
  |invoke r m=>rfl
def Eu{o:Op}{H:ad}(h:∀x∈o.operands,ck V x=ck bh x):hy P o V H=hy P o bh H:=by
 cases o<;>simp only[hy,Op.operands]at h ⊢ <;>first
  |rfl
  |(simp at h;simp[h];done)
  |skip
 ·rename_i c;cases a:c.callee with
  |builtin b=>
   simp only[Call.operands,a]at h ⊢;rw[qs λx d=>h x (by simpa using d)]
  |value f=>rfl
  |invoke r m=>rfl
def PL{o:Op}{H:ad}(h:∀x∈o.operands,ck V x=ck bh x):om P o V H=om P o bh H:=by
 cases o<;>simp only[om,Op.operands]at h ⊢ <;>first
  |rfl
  |(simp at h;simp[h];done)
  |skip
 ·rename_i t n c;rw[zV λx a=>h x (by simpa using a)]
 ·rename_i t r;cases r<;>rfl
def PN{o:Op}{l:Nat}(h:∀x∈o.operands,ck V x=ck bh x):jK P o V l=jK P o bh l:=by
 unfold jK;rw[PL h]
def Qb{o:Op}{H:ad}(h:∀x∈o.operands,ck V x=ck bh x):kY P o V H=kY P o bh H:=by
 cases o<;>simp only[kY,Op.operands]at h ⊢ <;>first
  |rfl
  |(simp at h;simp[h];done)
  |skip
 ·rename_i c;cases i:c.callee with
  |builtin b=>
   simp only[Call.operands,i]at h ⊢;cases a:c.args.toList with
   |nil=>cases b<;>rfl
   |cons s r=>
    cases r with
    |nil=>cases b<;>rfl
    |cons x r=>
     cases r with
     |nil=>
      have d:s∈c.args.toList:=by simp[a]
      have e:x∈c.args.toList:=by simp[a]
      cases b<;>first
       |rfl
       |(simp only;rw[h s (by simpa using d),h x (by simpa using e)])
     |cons y r=>cases b<;>rfl
  |value f=>rfl
  |invoke r m=>rfl
def Pk{c:Call}(h:∀x∈c.operands,ck V x=ck bh x):lM V c=lM bh c:=by
 unfold lM;cases d:c.callee with
 |builtin b=>rfl
 |value f=>
  simp only[Call.operands,d]at h ⊢;rw[h f (by simp),qs λx a=>h x (by simp at a ⊢;exact .inr a)]
 |invoke r m=>rfl
def lG.congr{call:e}{o:Op}{H:ad}{k:K}(h:∀x∈o.operands,ck V x=ck bh x)(a:lG P call o V H k):lG P call o bh H k:=by
 cases k with
 |skip=>exact a
 |pure v=>exact(PX h).symm.trans a
 |read v=>exact(Eu h).symm.trans a
 |new v b=>exact(PN h).symm.trans a
 |ea v H'=>
  obtain⟨i,d|⟨c,g,l,rfl,d,j⟩⟩:=a
  ·exact⟨i,.inl ((Qb h).symm.trans d)⟩
  ·exact⟨i,.inr ⟨c,g,l,rfl,(Pk h).symm.trans d,j⟩⟩
end congr
def oi(P:Program)(m:Sem Next)(w:World)(next:Value->World->Prop):Prop:=
 match m.run P w with
 | .ok (.value x) a=>next x a
 | .ok (.enter f args) a=>Calls P f args a λ
  | .returned x,c=>next x c
  |_,_=>False
 |_=>False
def mK(E:Env)(P:Program)(g:Nat)(args:List aa)(H:ad)(v:aa)(H':ad):Prop:=∀(ρ:Env) (w:World) (xs:List Value),Rel ρ H w->h8 E ρ H.next H'.next->b1 ρ args xs->H.next<=H'.next->∀next:Value->World->Prop,(∀x a c,bz c v x->Step ρ H w c H' a->next x a)->oi P (callFunc g xs.toArray) w next
def jH(E:Env)(P:Program)(call:e):Prop:=∀g args H v H',call g args H=I (v,H')->mK E P g args H v H'
section
variable {E:Env}{P:Program}{call:e}{ρ:Env}{H H':ad}{w:World}{V:bi}{a:Act}{o:Oper}{v:aa}{lH:Act->World->Prop}{Q:Exit->Act->World->Prop}
def LK(h:jf P o.op V=I v)(d:eg ρ V a)(c:∀x,bz ρ v x->lH (a.put o.dst x) w):o.wp P a w lH Q:=by
 obtain⟨x,ap,aE⟩:=PY h d w;unfold Oper.wp;rw[ap];exact c x aE
def L4(c:Rel ρ H w)(h:hy P o.op V H=I v)(e:eg ρ V a)(d:∀x,bz ρ v x->lH (a.put o.dst x) w):o.wp P a w lH Q:=by
 obtain⟨x,ap,aE⟩:=PZ c h e;unfold Oper.wp;rw[ap];exact d x aE
def KM{l:Nat}{b:b_}(h:jK P o.op V l=I (v,b))(s:eg ρ V a)(p:ρ l=u)
  (q:∀x c d e,bz d v x->ρ.le d->(∀k,k≠l->d k=ρ k)->d l=I e->w.heap.size<=e.block->b.k6=Y->i8 d c e b->
   c.os=w.os->c.tape=w.tape->c.output=w.output->w.heap.size<=c.heap.size->(∀k,k<w.heap.size->c.heap[k]? =w.heap[k]?)->lH (a.put o.dst x) c):o.wp P a w lH Q:=by
 obtain⟨x,c,d,e,ap,aE,bB,cc,dk,jO,ou,sZ,jl,i,j,m,n⟩:=PO h s p w;unfold Oper.wp;rw[ap];exact q x c d e aE bB cc dk jO ou sZ jl i j m n
def F4(L:jH E P call)(q:Rel ρ H w)(s:h8 E ρ H.next H'.next)(h:lG P call o.op V H (.ea v H'))(m:eg ρ V a)
  (l:∀x i j,bz j v x->Step ρ H w j H' i->lH (a.put o.dst x) i):o.wp P a w lH Q:=by
 obtain⟨O,B|⟨c,g,aa,G,d,C⟩⟩:=h
 ·obtain⟨n,x,i,j,ap,aE,bB,cc⟩:=Qc q B (s.new _ (aV _)) m;unfold Oper.wp;rw[ap];unfold DS at aE;split at aE
  ·subst aE;exact l _ i j bB cc
  ·subst aE;exact l _ i j bB cc
  ·exact aE.elim
 ·unfold lM at d;split at d
  ·rename_i f K;split at d
   ·rename_i g' first W N
    split at d
    ·rename_i ab S;simp only[aT,bS]at d;obtain⟨rfl,rfl⟩:=d;have p:=dK m N;have F:=qt m S;generalize M:a.eval f=z at p;cases p with|func _ _ _ jo c' aX T=>
     have k:=L _ _ _ _ _ C ρ w _ q s ((aX.append F).append T) O (λx i=>lH (a.put o.dst x) i) (λx i j=>l x i j);have R:(execOp a.eval o).run P w=(callFunc g' ((jo++c.args.toList.map a.eval++c').toArray)).run P w:=by
      unfold execOp;rw[G];simp only[resolve,K,M,Deferred.ofValue,pure_bind,invoke]
      congr 2
      rw[map_toArray a.eval];simp
     unfold Oper.wp;rw[R];unfold oi at k;split at k
     ·rename_i e;rw[e];exact k
     ·rename_i e;rw[e];refine Calls.mono k λA ad y=> ?_
      cases A<;>first|exact y|exact y.elim
     ·exact k.elim
    ·cases d
   ·cases d
  ·cases d
end
def kf(acc:List Nat):List Edge->Nat
 |[]=>0
 |e::es=>if Region.binds .any e then 2^e.on|||(acc[e.on]?.getD 0|||kf acc es)else kf acc es
def lX:List Oper->List Nat->List Nat
 |[],acc=>acc
 |o::os,acc=>lX os (acc++[kf acc o.after.toList])
def dR(ops:Array Oper):List Nat:=lX ops.toList []
def dp(ms:List Nat)(j i:Nat):Bool:=(ms[i]?.getD 0).testBit j
def Kr:∀(os pre:List Oper) (acc:List Nat),acc.length=pre.length->(∀i o,pre[i]? =I o->acc[i]? =I (kf (acc.take i) o.after.toList))->
  ∀i o,(pre++os)[i]? =I o->(lX os acc)[i]? =I (kf ((lX os acc).take i) o.after.toList)
 |[],pre,acc,ak,h,i,o,c=>by simpa [lX]using h i o (by simpa using c)
 |p::os,pre,acc,ak,h,i,o,c=>by
  unfold lX;refine Kr os (pre++[p]) _ (by simp[ak]) (λj q a=> ?_) i o (by simpa using c);rcases LM j pre.length with e|d
  ·rw[wx e]at a;rw[wx ae,h j q a,List.take_append_of_le_length ae]
  ·rw[uv d]at a;have:j=pre.length:=by
    have:=(xy.1 a).1;simp at this;omega
   subst this;simp at a;subst a;rw[uv ae,<-ak];simp
def Ks{ops:Array Oper}{i:Nat}{o:Oper}(h:ops[i]? =I o):(dR ops)[i]? =I (kf ((dR ops).take i) o.after.toList):=
 Kr ops.toList [] [] rfl (by simp) i o (by simpa using h)
def As{acc:List Nat}{e:Edge}:∀{es:List Edge},e∈es->Region.binds .any e=Y->(kf acc es).testBit e.on=Y
 |[],h,_=>by simp at h
 |d::es,h,a=>by
  unfold kf;rcases hi.1 h with rfl|h
  ·rw[if_pos a];simp[Nat.testBit_two_pow_self]
  ·split
   ·simp[As h a]
   ·exact As h a
def Ar{acc:List Nat}{j:Nat}:∀{es:List Edge},(kf acc es).testBit j=Y->∃e∈es,Region.binds .any e=Y/\(j=e.on\/(acc[e.on]?.getD 0).testBit j=Y)
 |[],h=>by simp[kf]at h
 |d::es,h=>by
  unfold kf at h;split at h
  ·rename_i k;simp only[Nat.testBit_or,kl]at h;rcases h with h|h|h
   ·refine⟨d,by simp,k,.inl ?_⟩;rw[Nat.testBit_two_pow]at h;simpa using(of_decide_eq_true h).symm
   ·exact⟨d,by simp,k,.inr h⟩
   ·obtain⟨e,a,c,i⟩:=Ar h;exact⟨e,by simp[a],c,i⟩
  ·obtain⟨e,a,c,i⟩:=Ar h;exact⟨e,by simp[a],c,i⟩
def ql(L:Nat->Bool)(o:Oper):Prop:=∀e∈o.after,Region.binds .any e=Y->L e.on=Y
def sJ(ops:Array Oper)(L:Nat->Bool):Prop:=∀i o,ops[i]? =I o->L i=Y->ql L o
def kZ{ops:Array Oper}{L:Nat->Bool}(s:sJ ops L):∀(i:Nat) (o:Oper),ops[i]? =I o->ql L o->∀j,dp (dR ops) j i=Y->L j=true:=by
 intro i
 induction i using HI with
 |_ i h=>
  intro o w x j c;unfold dp at c;rw[Ks w]at c;simp only[rs]at c;obtain⟨e,p,q,a⟩:=Ar c;have k:=x e (by simpa using p) q;rcases a with rfl|a
  ·exact k
  ·rcases LM e.on i with l|B
   ·rw[List.getElem?_take_of_lt l]at a;cases d:ops[e.on]? with
    |none=>
     cases n:(dR ops)[e.on]? with
     |none=>rw[n]at a;simp at a
     |some m=>
      exfalso;have v:∀(os:List Oper) (acc:List Nat),(lX os acc).length=acc.length+os.length:=by
       intro os
       induction os with
       |nil=>intro acc;simp[lX]
       |cons o os h=>intro acc;simp[lX,h];omega
      have y:=(xy.1 n).1;have z:(dR ops).length=ops.size:=by unfold dR;rw[v];simp
      have A:ops.size<=e.on:=by simpa using d
      omega
    |some q3=>exact h e.on l q3 d (s _ _ d k) j a
   ·rw[List.getElem?_eq_none (by simp;omega)]at a;simp at a
def Qk{ops:Array Oper}{i:Nat}{o:Oper}(d:ops[i]? =I o){e:Edge}(c:e∈o.after)(a:Region.binds .any e=Y):dp (dR ops) e.on i=true:=by
 unfold dp;rw[Ks d];exact As (by simpa using c) a
def kX(ops:Array Oper)(V:bi)(o:Oper):Bool:=
 match o.guard with
 |none=>Y
 |some (j,a)=>match ops[j]? with
  |some q=>(match q.dst with
   |some d=>(match V.get d with
    | .bool b=>b==a
    |_=>X)
   |none=>X)
  |none=>X
def EE{ρ:Env}{ops:Array Oper}{V:bi}{a:Act}(h:eg ρ V a)(o:Oper):Region.wanted o (yielded ops a.tmps)=kX ops V o:=by
 unfold Region.wanted kX;cases k:o.guard with
 |none=>rfl
 |some p=>
  obtain⟨j,m⟩:=p;simp only
  unfold yielded;cases l:ops[j]? with
  |none=>simp
  |some q=>
   cases e:q.dst with
   |none=>simp[e]
   |some d=>
    simp only[Option.bind_some,e];have c:=h.get d;rw[ef]at c;cases aq:a.tmps[d]? with
    |none=>
     rw[aq]at c;simp only[Option.getD_none]at c;generalize i:V.get d=v at c;cases v<;>first|rfl|(exfalso;cases c)
    |some x=>
     rw[aq]at c;simp only[rs]at c;generalize i:V.get d=v at c;cases c<;>first|rfl|(simp;done)
def Qa{ops:Array Oper}{V bh:bi}{o:Oper}(h:∀d∈o.looksAt ops,V.get d=bh.get d):kX ops V o=kX ops bh o:=by
 unfold kX;cases c:o.guard with
 |none=>rfl
 |some p=>
  obtain⟨j,i⟩:=p;simp only
  cases e:ops[j]? with
  |none=>rfl
  |some q=>
   cases a:q.dst with
   |none=>simp[a]
   |some d=>
    simp only[a];rw[h d (by simp[Oper.looksAt,c,e,a])]
def P_{ops:Array Oper}{V bh:bi}{o:Oper}(h:∀d∈o.looksAt ops,V.get d=bh.get d):∀x∈o.op.operands,ck V x=ck bh x:=by
 intro x a;cases x with
 |tmp t=>
  simp only[ck];rw[h t ?_];unfold Oper.looksAt;refine lm.2 (.inl ?_);rw[List.mem_filterMap];exact⟨.tmp t,by simpa using a,rfl⟩
 |const v=>rfl
 |global g=>rfl
 |func f=>rfl
structure b4 where
 i:Nat
 o:Oper
 V:bi
 k:K
def hX(P:Program)(call:e)(ops:Array Oper)(o:Oper)(V:bi)(H:ad):Option K:=
 match kX ops V o with
 |true=>step1 P call o.op V H
 |false=>I .skip
def canRun(P:Program)(call:e)(ops:Array Oper):List Nat->bi->ad->Option (List b4×bi×ad)
 |[],V,H=>I ([],V,H)
 |i::a,V,H=>match ops[i]? with
  |none=>u
  |some o=>match hX P call ops o V H with
   |none=>u
   |some k=>match V.put o.dst k.val with
    |none=>u
    |some bh=>match canRun P call ops a bh (k.heap H)with
     |none=>u
     |some (T,cF,b6)=>I (⟨i,o,V,k⟩::T,cF,b6)
def r:List b4->ad->ad
 |[],H=>H
 |t::ts,H=>r ts (t.k.heap H)
def kj(A B:List b4)(H:ad):r (A++B) H=r B (r A H):=by
 induction A generalizing H with
 |nil=>rfl
 |cons t A a=>simp[r,a]
def gA(L:Nat->Bool)(d:Nat):List b4->aa->aa
 |[],v=>v
 |t::ts,v=>gA L d ts (if L t.i=Y/\t.o.dst=I d then t.k.val else v)
def Ca(L:Nat->Bool)(d:Nat)(A B:List b4)(v:aa):gA L d (A++B) v=gA L d B (gA L d A v):=by
 induction A generalizing v with
 |nil=>rfl
 |cons t A a=>simp[gA,a]
def tL{L L':Nat->Bool}{d:Nat}:∀{A:List b4} {v:aa},(∀t∈A,t.o.dst=I d->L t.i=L' t.i)->gA L d A v=gA L' d A v
 |[],_,_=>rfl
 |t::A,v,h=>by
  simp only[gA];have:(L t.i=Y/\t.o.dst=I d)↔(L' t.i=Y/\t.o.dst=I d):=by
   constructor
   ·rintro⟨c,a⟩;exact⟨by rw[<-h t (by simp) a];exact c,a⟩
   ·rintro⟨c,a⟩;exact⟨by rw[h t (by simp) a];exact c,a⟩
  simp only[this];exact tL λj e=>h j (by simp[e])
def ww{L:Nat->Bool}{d:Nat}:∀{A:List b4} {v:aa},(∀t∈A,t.o.dst=I d->L t.i=X)->gA L d A v=v
 |[],_,_=>rfl
 |t::A,v,h=>by
  simp only[gA];rw[if_neg (by rintro⟨a,c⟩;rw[h t (by simp) c]at a;cases a)];exact ww λj e=>h j (by simp[e])
def k0{P:Program}{call:e}{ops:Array Oper}:∀{a:List Nat} {V:bi} {H:ad} {T:List b4} {cF:bi} {b6:ad},canRun P call ops a V H=I (T,cF,b6)->
  T.map (·.i)=a/\b6=r T H/\cF.size=V.size/\∀d,cF.get d=gA (λ_=>Y) d T (V.get d)
 |[],V,H,T,cF,b6,h=>by
  simp only[canRun,aT,bS]at h;obtain⟨rfl,rfl,rfl⟩:=h;exact⟨rfl,rfl,rfl,λ_=>rfl⟩
 |i::a,V,H,T,cF,b6,h=>by
  simp only[canRun]at h;split at h
  ·cases h
  ·rename_i o p;split at h
   ·cases h
   ·rename_i k n;split at h
    ·cases h
    ·rename_i bh c;split at h
     ·cases h
     ·rename_i m l j aU;simp only[aT,bS]at h;obtain⟨rfl,rfl,rfl⟩:=h;obtain⟨ap,aE,bB,cc⟩:=k0 aU;refine⟨by simp[ap],aE,by rw[bB,bi.su c],λd=> ?_⟩;rw[cc d,bi.ta c d];simp[gA]
def Ag{P:Program}{call:e}{ops:Array Oper}:∀{A:List b4} {l:List Nat} {V:bi} {H:ad} {t:b4} {B:List b4} {cF:bi} {b6:ad},canRun P call ops l V H=I (A++t::B,cF,b6)->
  ops[t.i]? =I t.o/\(∀d,t.V.get d=gA (λ_=>Y) d A (V.get d))/\hX P call ops t.o t.V (r A H)=I t.k/\(∀d,t.o.dst=I d->d<V.size)
 |A,[],V,H,t,B,cF,b6,h=>by
  simp only[canRun,aT,bS]at h;have:=h.1;simp at this
 |A,i::l,V,H,t,B,cF,b6,h=>by
  simp only[canRun]at h;split at h
  ·cases h
  ·rename_i o n;split at h
   ·cases h
   ·rename_i k m;split at h
    ·cases h
    ·rename_i bh c;split at h
     ·cases h
     ·rename_i s q p aU;simp only[aT,bS]at h;obtain⟨a,rfl,rfl⟩:=h;cases A with
      |nil=>
       simp only[pq,List.cons.injEq]at a;obtain⟨rfl,rfl⟩:=a;refine⟨n,λ_=>rfl,m,λd j=> ?_⟩;simp only at j;rw[j]at c;exact bi.LN c
      |cons v A=>
       simp only[fg,List.cons.injEq]at a;obtain⟨rfl,rfl⟩:=a;obtain⟨ap,aE,bB,cc⟩:=Ag aU;refine⟨ap,λd=> ?_,bB,λd j=>by rw[<-bi.su c];exact cc d j⟩;rw[aE d,bi.ta c d];simp[gA]
def e1:ad->List b4->Prop
 |_,[]=>True
 |H,t::ts=>H.next<=(t.k.heap H).next/\e1 (t.k.heap H) ts
def e1.append:∀{A B:List b4} {H:ad},e1 H (A++B)->e1 H A/\e1 (r A H) B
 |[],_,_,h=>⟨trivial,h⟩
 |_::A,_,_,h=>by
  obtain⟨a,c⟩:=h;obtain⟨d,e⟩:=e1.append (A:=A) c;exact⟨⟨a,d⟩,e⟩
def e1.le:∀{A:List b4} {H:ad},e1 H A->H.next<=(r A H).next
 |[],_,_=>aV _
 |_::A,_,h=>gh h.1 (e1.le (A:=A) h.2)
def qQ{P:Program}{call:e}{ops:Array Oper}{o:Oper}{V:bi}{H:ad}{k:K}(h:hX P call ops o V H=I k):
  (kX ops V o=Y/\lG P call o.op V H k)\/(kX ops V o=X/\k= .skip):=by
 unfold hX at h;split at h
 ·rename_i a;exact .inl ⟨a,aba h⟩
 ·rename_i a;simp only[aT]at h;exact .inr ⟨a,h.symm⟩
def Jh{P:Program}{call:e}{ops:Array Oper}{o:Oper}{V:bi}{H:ad}{k:K}(h:hX P call ops o V H=I k)(a:k.fu=Y):oF o.op=true:=by
 unfold hX at h;split at h
 ·exact aa_ h a
 ·simp only[aT]at h;subst h;cases a
def Ba{P:Program}{call:e}{ops:Array Oper}{o:Oper}{V:bi}{H:ad}{k:K}(h:hX P call ops o V H=I k):H.next<=(k.heap H).next:=by
 rcases qQ h with⟨_,h⟩|⟨_,rfl⟩
 ·cases k with
  |ea v H'=>exact h.1
  |new v b=>simp[K.heap]
  |_=>exact aV _
 ·exact aV _
def sW{P:Program}{call:e}{ops:Array Oper}:∀{a:List Nat} {V:bi} {H:ad} {T:List b4} {cF:bi} {b6:ad},canRun P call ops a V H=I (T,cF,b6)->e1 H T
 |[],V,H,T,cF,b6,h=>by
  simp only[canRun,aT,bS]at h;obtain⟨rfl,rfl,rfl⟩:=h;trivial
 |i::a,V,H,T,cF,b6,h=>by
  simp only[canRun]at h;split at h
  ·cases h
  ·rename_i o m;split at h
   ·cases h
   ·rename_i k c;split at h
    ·cases h
    ·split at h
     ·cases h
     ·rename_i l j d aU;simp only[aT,bS]at h;obtain⟨rfl,rfl,rfl⟩:=h;exact⟨Ba c,sW aU⟩
def eA(L:Nat->Bool):List b4->ad->Nat->Option b_
 |[],_,_=>u
 |t::ts,H,l=>match t.k with
  | .new _ b=>if l=H.next then(if L t.i=Y then I b else u)else eA L ts (H.push b) l
  |k=>eA L ts (k.heap H) l
def tD{L:Nat->Bool}:∀{T:List b4} {H:ad} {l:Nat} {b:b_},e1 H T->eA L T H l=I b->H.next<=l
 |[],_,_,_,_,h=>by cases h
 |t::ts,H,l,b,a,h=>by
  unfold eA at h;split at h
  ·rename_i v cN c;split at h
   ·omega
   ·have:=tD (by have:=a.2;rwa[c]at this) h;simp at this;omega
  ·have d:=a.1;have:=tD a.2 h;omega
def tC{L L':Nat->Bool}:∀{T:List b4} {H:ad},(∀t∈T,∀v b,t.k= .new v b->L t.i=L' t.i)->eA L T H=eA L' T H
 |[],_,_=>rfl
 |t::ts,H,h=>by
  funext l
  unfold eA;split
  ·rename_i v b d;rw[h t (by simp) v b d,tC (T:=ts) (λc a=>h c (by simp[a]))]
  ·rw[tC (T:=ts) (λc a=>h c (by simp[a]))]
def tE{L:Nat->Bool}{t:b4}{ts:List b4}{H:ad}(h:∀v b,t.k≠ .new v b):eA L (t::ts) H=eA L ts (t.k.heap H):=by
 funext l
 show(match t.k with
  | .new _ b=>if l=H.next then(if L t.i=Y then I b else u)else eA L ts (H.push b) l
  |k=>eA L ts (k.heap H) l)=_
 split
 ·rename_i v b a;exact absurd a (h v b)
 ·rfl
def Lp{L L':Nat->Bool}{t:b4}{v:aa}{b:b_}(aq:t.k= .new v b)(m:L t.i=X)(p:L' t.i=Y):∀{C D:List b4} {H:ad},e1 H (C++t::D)->
  (∀a∈C,L a.i=L' a.i)->(∀a∈D,L a.i=L' a.i)->
  eA L' (C++t::D) H=(λk=>if k=(r C H).next then I b else eA L (C++t::D) H k)/\eA L (C++t::D) H (r C H).next=u
 |[],D,H,w,j,l=>by
  constructor
  ·funext k
   simp only[pq,r,eA,aq,m,p,if_true,FG,if_false];rw[tC (T:=D) λa n _ _ _=>l a n];split<;>rfl
  ·simp[eA,aq,m,r]
 |c::C,D,H,w,j,l=>by
  obtain⟨z,o⟩:=w;obtain⟨ap,aE⟩:=Lp aq m p (C:=C) (D:=D) o (λa n=>j a (by simp[n])) l;by_cases d:∃y cN,c.k= .new y cN
  ·obtain⟨y,cN,d⟩:=d;have s:(c.k.heap H).next<=(r C (c.k.heap H)).next:=(e1.append o).1.le
   rw[d]at ap aE s;simp only[K.heap,ad.bb]at s ap aE;constructor
   ·funext k
    simp only[fg,eA,d,r,K.heap];rw[<-j c (by simp),ap];by_cases q:k=H.next
    ·subst q;simp only[if_true];by_cases e:H.next=(r C (H.push cN)).next
     ·omega
     ·simp only[e,if_false]
    ·simp only[q,if_false];by_cases e:k=(r C (H.push cN)).next
     ·simp only[e,if_true]
     ·simp only[e,if_false]
   ·simp only[fg,eA,d,r,K.heap];rw[if_neg ae];exact aE
  ·have x:∀v b,c.k≠ .new v b:=λv b h=>d ⟨v,b,h⟩
   rw[fg,tE x,tE x,r];exact⟨ap,aE⟩
section
mutual
def aa.beq:aa->aa->Bool
 | .bool a,.bool b=>a==b
 | .int k n,.int o m=>decide (k=o)&&decide (n=m)
 | .str s,.str t=>decide (s=t)
 | .ptr l i c,.ptr l' d c'=>decide (l=l')&&decide (i=d)&&decide (c=c')
 | .nilPtr,.nilPtr=>Y
 | .ax l i n e c,.ax l' d p j c'=>decide (l=l')&&decide (i=d)&&decide (n=p)&&decide (e=j)&&decide (c=c')
 | .ag,.ag=>Y
 | .map l,.map l'=>decide (l=l')
 | .iE,.iE=>Y
 | .nilFunc,.nilFunc=>Y
 | .iface t v,.iface q w=>decide (t=q)&&aa.beq v w
 | .nilIface,.nilIface=>Y
 | .agg xs,.agg h=>fK.beq xs h
 | .tuple xs,.tuple h=>fK.beq xs h
 |_,_=>X
def fK.beq:List aa->List aa->Bool
  |[],[]=>Y
  |x::xs,y::a=>aa.beq x y&&fK.beq xs a
  |_,_=>X
 end
mutual
def aa.beq_eq:∀{a b:aa},aa.beq a b=Y->a=b:=by
 intro a b h;cases a<;>cases b<;>simp only[aa.beq]at h<;>first
  |(cases h;done)
  |rfl
  |(simp at h;simp[h];done)
  |skip
 ·simp only[de,decide_eq_true_eq]at h;obtain⟨rfl,h⟩:=h;rw[aa.beq_eq h]
 ·rw[fK.beq_eq h]
 ·rw[fK.beq_eq h]
def fK.beq_eq:∀{a b:List aa},fK.beq a b=Y->a=b:=by
  intro a b h;cases a with
  |nil=>cases b with
   |nil=>rfl
   |cons y c=>simp[fK.beq]at h
  |cons x xs=>cases b with
   |nil=>simp[fK.beq]at h
   |cons y c=>
    simp only[fK.beq,de]at h;rw[aa.beq_eq h.1,fK.beq_eq h.2]
 end
def tA(ops:Array Oper)(ms:List Nat)(i j:Nat):Bool:=
 match ops[i]?,ops[j]? with
 |some o,I q=>(i != j)&&(!dp ms j i)&&(dp ms i j||o.apart ops q)
 |_,_=>X
def wc(ops:Array Oper)(ms:List Nat):List Nat->Bool
 |[]=>Y
 |i::a=>a.all (tA ops ms i)&&wc ops ms a
def Lh{ops:Array Oper}{ms:List Nat}:∀{a:List Nat},wc ops ms a=Y->a.Pairwise λi j=>tA ops ms i j=Y
 |[],_=> .nil
 |i::a,h=>by
  simp only[wc,de,ij]at h;exact .cons h.1 (Lh h.2)
def F1(n:Nat)(o:Oper):Bool:=o.after.toList.all λe=> !Region.binds .any e||decide (e.on<n)
def rh(ops:Array Oper)(ms ord:List Nat):Bool:=(AB ops.size).all (λi=>ord.contains i)&&(ord.all (λi=> !dp ms i i)&&(ops.toList.all (F1 ops.size)&&wc ops ms ord))
def jm(ms:List Nat):List b4->List Nat->Bool
 |[],_=>Y
 |t::ts,a=>match t.k with
  | .ea _ _=>a.all (λj=>dp ms j t.i)&&jm ms ts (t.i::a)
  | .new _ _=>jm ms ts (t.i::a)
  |_=>jm ms ts a
def vn{ms:List Nat}:∀{A:List b4} {t:b4} {B:List b4} {m:List Nat} {v:aa} {H:ad},jm ms (A++t::B) m=Y->t.k= .ea v H->
  (∀j∈m,dp ms j t.i=Y)/\∀a∈A,a.k.fu=Y->dp ms a.i t.i=Y
 |[],t,B,m,v,H,h,aq=>by
  simp only[pq,jm,aq,de,ij]at h;exact⟨h.1,λa hu=>by simp at hu⟩
 |c::A,t,B,m,v,H,h,aq=>by
  simp only[fg,jm]at h;split at h
  ·simp only[de]at h;obtain⟨d,l⟩:=vn h.2 aq;refine⟨λj n=>d j (by simp[n]),λa hu e=> ?_⟩;rcases hi.1 hu with rfl|hu
   ·exact d _ (by simp)
   ·exact l a hu e
  ·obtain⟨d,l⟩:=vn h aq;refine⟨λj n=>d j (by simp[n]),λa hu e=> ?_⟩;rcases hi.1 hu with rfl|hu
   ·exact d _ (by simp)
   ·exact l a hu e
  ·rename_i p q;obtain⟨d,l⟩:=vn h aq;refine⟨d,λa hu e=> ?_⟩;rcases hi.1 hu with rfl|hu
   ·exfalso;cases o:a.k with
    |new v b=>exact q v b o
    |ea v H=>exact p v H o
    |_=>rw[o]at e;cases e
   ·exact l a hu e
def j7(ms:List Nat)(rd:ad->Bool)(i:Nat):List b4->ad->Bool
 |[],H=>rd H
 |t::ts,H=>if t.k.fu then(dp ms t.i i||rd H)&&(dp ms i t.i||j7 ms rd i ts (t.k.heap H))else j7 ms rd i ts H
def vA{k:K}(h:k.fu=X)(H:ad):k.heap H=H:=by
 cases k<;>first|rfl|cases h
def DQ{ms:List Nat}{rd:ad->Bool}{i:Nat}:∀{A B:List b4} {H:ad},j7 ms rd i (A++B) H=Y->(∀a∈A,a.k.fu=Y->dp ms i a.i=X)->
  (∀a l,B=a::l->a.k.fu=Y/\dp ms a.i i=X)->rd (r A H)=Y
 |[],[],H,h,_,_=>h
 |[],a::B,H,h,_,c=>by
  obtain⟨m,n⟩:=c a B rfl;simp only[pq,j7,m,if_true,de,kl,n]at h;simpa [r]using h.1
 |t::A,B,H,h,d,c=>by
  simp only[fg,j7]at h;split at h
  ·rename_i e;simp only[de,kl,d t (by simp) e]at h;rw[r];exact DQ (h.2.resolve_left (by simp)) (λa j=>d a (by simp[j])) c
  ·rename_i e;rw[r,vA (by simpa using e)];exact DQ h (λa j=>d a (by simp[j])) c
def o5(P:Program)(o:Op)(V:bi)(v:aa)(H:ad):Bool:=
 match hy P o V H with
 |some a=>aa.beq a v
 |none=>X
def L3{P:Program}{o:Op}{V:bi}{v:aa}{H:ad}(h:o5 P o V v H=Y):hy P o V H=I v:=by
 unfold o5 at h;split at h
 ·rename_i c a;rw[a,aa.beq_eq h]
 ·cases h
def ad.only(H:ad):ad:=match H.get (H.next-1)with
 |some b=>⟨bG.put b H.next .leaf (H.next-1),H.next⟩
 |none=>⟨.leaf,H.next⟩
def ad.v8{H:ad}{b:b_}{l:Nat}{x:b_}(h:(H.push b).only.get l=I x):l=H.next/\x=b:=by
 have e:(H.push b).get ((H.push b).next-1)=I b:=ad.a_ H b;unfold ad.only at h;rw[e]at h;simp only[ad.get,ad.bb,Nat.add_sub_cancel]at h;split at h
 ·by_cases ak:H.next=l
  ·subst ak;rw[bG.tc _ _ _ _ ae]at h;exact⟨rfl,by simpa using h.symm⟩
  ·rw[bG.tb _ _ _ _ _ ak]at h;rw[bG.s_]at h;cases h
 ·cases h
def nb(k:K):Bool:=match k with
 | .ea _ _=>X
 |_=>Y
def oq(ms:List Nat)(i:Nat):List b4->Bool->Bool
 |[],_=>X
 |t::ts,s=>match t.k with
  | .new _ _=>(s&&dp ms t.i i&&ts.all λa=>nb a.k)||oq ms i ts (s|| !dp ms t.i i)
  | .ea _ _=>oq ms i ts (s|| !dp ms t.i i)
  |_=>oq ms i ts s
def kp(ms:List Nat)(rd:ad->Bool)(i:Nat):List b4->ad->Bool->Bool
 |[],_,_=>X
 |t::ts,H,s=>match t.k with
  | .new _ b=>bif s&&dp ms t.i i&&ts.all (λa=>nb a.k)then rd (H.push b).only||kp ms rd i ts (H.push b) (s|| !dp ms t.i i)else kp ms rd i ts (H.push b) (s|| !dp ms t.i i)
  | .ea _ H'=>kp ms rd i ts H' (s|| !dp ms t.i i)
  |_=>kp ms rd i ts H s
def KK{ms:List Nat}{rd:ad->Bool}{i:Nat}:∀{T:List b4} {H:ad} {s:Bool},kp ms rd i T H s=Y->
  ∃A a B v b,T=A++a::B/\a.k= .new v b/\dp ms a.i i=Y/\(∀x∈B,nb x.k=Y)/\rd ((r A H).push b).only=Y
 |[],H,s,h=>by cases h
 |t::ts,H,s,h=>by
  have j:∀{H':ad} {s':Bool},t.k.heap H=H'->kp ms rd i ts H' s'=Y->∃A a B v b,t::ts=A++a::B/\a.k= .new v b/\dp ms a.i i=Y/\(∀x∈B,nb x.k=Y)/\rd ((r A H).push b).only=true:=by
   intro H' s' e aU;obtain⟨A,a,B,v,b,ap,aE,bB,cc,dk⟩:=KK aU;exact⟨t::A,a,B,v,b,by rw[ap];rfl,aE,bB,cc,by rw[r,e];exact dk⟩
  unfold kp at h;split at h
  ·rename_i v b c;have l:t.k.heap H=H.push b:=by rw[c];rfl
   cases d:(s&&dp ms t.i i&&ts.all λa=>nb a.k)with
   |true=>
    rw[d,aK,kl]at h;simp only[de,ij]at d;rcases h with h|h
    ·exact⟨[],t,ts,v,b,rfl,c,d.1.2,d.2,h⟩
    ·exact j l h
   |false=>rw[d,aH]at h;exact j l h
  ·rename_i v H' c;exact j (by rw[c];rfl) h
  ·rename_i m n;refine j (vA ?_ H) h;cases c:t.k with
   |new v b=>exact absurd c (m v b)
   |ea v H'=>exact absurd c (n v H')
   |_=>rfl
def sp(ms:List Nat)(rd:ad->Bool)(i:Nat)(T:List b4)(H:ad):Bool:=bif oq ms i T X then j7 ms rd i T H||kp ms rd i T H X else j7 ms rd i T H
def aaG{ms:List Nat}{rd:ad->Bool}{i:Nat}{T:List b4}{H:ad}(h:sp ms rd i T H=Y):j7 ms rd i T H=Y\/kp ms rd i T H X=true:=by
 unfold sp at h;cases a:oq ms i T X with
 |true=>rw[a,aK,kl]at h;exact h
 |false=>rw[a,aH]at h;exact .inl h
def lE(P:Program)(ms:List Nat)(a:Nat->Bool)(T:List b4)(H:ad):List b4->Bool
 |[]=>Y
 |t::ts=>(match t.k with
  | .read v=>a t.i||sp ms (o5 P t.o.op t.V v) t.i T H
  |_=>Y)&&lE P ms a T H ts
def OI{P:Program}{ms:List Nat}{a:Nat->Bool}{T:List b4}{H:ad}{t:b4}{v:aa}(aq:t.k= .read v):∀{ts:List b4},lE P ms a T H ts=Y->t∈ts->a t.i=Y\/sp ms (o5 P t.o.op t.V v) t.i T H=Y
 |[],_,hm=>by simp at hm
 |c::ts,h,hm=>by
  simp only[lE,de]at h;rcases hi.1 hm with rfl|hm
  ·have:=h.1;rw[aq]at this;simpa using this
  ·exact OI aq h.2 hm
section
variable {P:Program}{call:e}{ops:Array Oper}{ord:List Nat}{eY cF:bi}{H0 b6:ad}{T:List b4}{ρ0:Env}{w0:World}{Q:Exit->Act->World->Prop}
def da(a:Array Bool)(i:Nat):Bool:=a.getD i X
def Lf{i j:Nat}{o q:Oper}(a:ops[i]? =I o)(c:ops[j]? =I q)(h:tA ops (dR ops) i j=Y):
  i≠j/\dp (dR ops) j i=X/\(dp (dR ops) i j=Y\/o.apart ops q=Y):=by
 unfold tA at h;rw[a,c]at h;simp only[de,bne_iff_ne,ne_eq,zA,kl]at h;exact⟨h.1.1,h.1.2,h.2⟩
def tied(ops:Array Oper)(ms ord:List Nat)(i:Nat):Bool:=
 ord.all λj=>(j==i)||(match ops[j]? with|some o=> !oF o.op|none=>Y)||dp ms j i||dp ms i j
def abp{ms ord:List Nat}{i j:Nat}{o:Oper}(h:tied ops ms ord i=Y)(c:j∈ord)(d:j≠i)(e:ops[j]? =I o)(a:oF o.op=Y):dp ms j i=Y\/dp ms i j=true:=by
 unfold tied at h;rw[ij]at h;have:=h j c;rw[e]at this;simpa [d,a]using this
structure Ctx(P:Program)(call:e)(ops:Array Oper)(ord:List Nat)(eY:bi)(H0:ad)(T:List b4)(cF:bi)(b6:ad):Prop where
 ar:canRun P call ops ord eY H0=some (T,cF,b6)
 B0:rh ops (dR ops) ord=true
 ea:jm (dR ops) T []=true
 win:lE P (dR ops) (tied ops (dR ops) ord) T H0 T=true
def Ctx.Lg(c:Ctx P call ops ord eY H0 T cF b6):T.Pairwise λt d=>tA ops (dR ops) t.i d.i=true:=by
 have h:=c.B0;simp only[rh,de]at h;have a:=Lh h.2.2.2;rw[<-(k0 c.ar).1]at a;exact(List.pairwise_map.1 a)
def Ctx.at(c:Ctx P call ops ord eY H0 T cF b6){A B:List b4}{t:b4}(h:T=A++t::B):
  ops[t.i]? =I t.o/\(∀d,t.V.get d=gA (λ_=>Y) d A (eY.get d))/\hX P call ops t.o t.V (r A H0)=I t.k/\(∀d,t.o.dst=I d->d<eY.size):=
 Ag (by rw[<-h];exact c.ar)
def Ctx.mem(c:Ctx P call ops ord eY H0 T cF b6){t:b4}(h:t∈T):ops[t.i]? =I t.o:=by
 obtain⟨A,B,h⟩:=jk h;exact(c.at h).1
def Ctx.before(c:Ctx P call ops ord eY H0 T cF b6){A B:List b4}{t:b4}(h:T=A++t::B){a:b4}(e:a∈A):
  a.i≠t.i/\dp (dR ops) t.i a.i=X/\(dp (dR ops) a.i t.i=Y\/a.o.apart ops t.o=Y):=by
 have d:=c.Lg;rw[h,EF]at d;exact Lf (c.mem (by rw[h];simp[e])) (c.mem (by rw[h];simp)) (d.2.2 a e t (by simp))
def Ctx.after(c:Ctx P call ops ord eY H0 T cF b6){A B:List b4}{t:b4}(h:T=A++t::B){a:b4}(e:a∈B):
  t.i≠a.i/\dp (dR ops) a.i t.i=X/\(dp (dR ops) t.i a.i=Y\/t.o.apart ops a.o=Y):=by
 have d:=c.Lg;rw[h,EF,List.pairwise_cons]at d;exact Lf (c.mem (by rw[h];simp)) (c.mem (by rw[h];simp[e])) (d.2.1.1 a e)
def Ctx.looks(c:Ctx P call ops ord eY H0 T cF b6){A B:List b4}{t:b4}(h:T=A++t::B){L:Nat->Bool}(j:sJ ops L)(v:ql L t.o)(n:L t.i=X):
  ∀d∈t.o.looksAt ops,gA L d T (eY.get d)=t.V.get d:=by
 intro d p;obtain⟨ap,aE,_,_⟩:=c.at h;rw[aE d,h,Ca,gA];rw[if_neg (by rintro⟨m,_⟩;rw[n]at m;cases m)];rw[ww (A:=B),tL (L':=λ_=>Y)]
 ·intro l e k;obtain⟨_,_,a⟩:=c.before h e;rcases a with a|a
  ·exact kZ j _ _ ap v _ a
  ·exact absurd p ((Oper.apart_spec a).1 d k)
 ·intro l e k;obtain⟨_,_,a⟩:=c.after h e;rcases a with a|a
  ·cases s:L l.i with
   |false=>rfl
   |true=>
    have q:=c.mem (t:=l) (by rw[h];simp[e]);have:=kZ j _ _ q (j _ _ q s) _ a;rw[n]at this;cases this
  ·exact absurd p ((Oper.apart_spec a).2.2 d k)
def Ctx.fU(c:Ctx P call ops ord eY H0 T cF b6){A B:List b4}{t:b4}(h:T=A++t::B){L L':Nat->Bool}(n:sJ ops L)(w:L t.i=X)(y:L' t.i=Y)(au:∀j,j≠t.i->L' j=L j)(d:Nat)(v:aa):
  gA L' d T v=if t.o.dst=I d then t.k.val else gA L d T v:=by
 have q:∀a∈A,a.o.dst=I d->L' a.i=L a.i:=λa l _=>au _ (c.before h l).1
 have s:∀a∈B,a.o.dst=I d->L' a.i=L a.i:=λa l _=>au _ (Ne.symm (c.after h l).1)
 rw[h,Ca,Ca,tL q];simp only[gA];rw[tL s];by_cases e:t.o.dst=I d
 ·rw[if_pos ⟨y,e⟩,if_pos e];refine ww λa l C=> ?_
  obtain⟨_,_,m⟩:=c.after h l;rcases m with m|m
  ·cases z:L a.i with
   |false=>rfl
   |true=>
    have p:=c.mem (t:=a) (by rw[h];simp[l]);have:=kZ n _ _ p (n _ _ p z) _ m;rw[w]at this;cases this
  ·exact absurd C ((Oper.apart_spec m).2.1 d e)
 ·rw[if_neg (λx=>e x.2),if_neg e,if_neg (λx=>e x.2)]
def fC.turns{N:Nat}{ρ:Env}{w:World}{L:Nat->Bool}:∀{C D:List b4} {H:ad},e1 H (C++D)->(∀a∈C,a.k.fu=Y->L a.i=Y/\∃v b,a.k= .new v b)->
  fC ρ0 H0 w0 N (eA L (C++D) H) ρ H w->fC ρ0 H0 w0 N (eA L D (r C H)) ρ (r C H) w
 |[],D,H,_,_,m=>m
 |c::C,D,H,o,j,m=>by
  by_cases d:c.k.fu=Y
  ·obtain⟨ak,v,b,e⟩:=j c (by simp) d;have z:eA L (c::C++D) H H.next=I b:=by simp[eA,e,ak]
   have s:=m.Oj z;have p:e1 (H.push b) (C++D):=by have:=o.2;rw[e]at this;exact this
   have x:(λk=>if k=H.next then u else eA L (c::C++D) H k)=eA L (C++D) (H.push b):=by
    funext k
    by_cases l:k=H.next
    ·rw[if_pos l];cases A:eA L (C++D) (H.push b) k with
     |none=>rfl
     |some cN=>have:=tD p A;simp at this;omega
    ·rw[if_neg l];simp[eA,e,l]
   rw[x]at s;have:=fC.turns p (λa n=>j a (by simp[n])) s;rw[r,e];exact this
  ·have y:∀v b,c.k≠ .new v b:=λv b h=>by rw[h]at d;exact d rfl
   rw[fg,tE y]at m;have q:=vA (by simpa using d) H;rw[r];rw[q]at m ⊢;refine fC.turns ?_ (λa n=>j a (by simp[n])) m;have:=o.2;rwa[q]at this
structure Inv(ops:Array Oper)(eY:bi)(H0:ad)(T:List b4)(N:Nat)(ρ0:Env)(w0:World)(listed:Array Bool)(a:Act)(w:World):Prop where
 size:listed.size=ops.size
 closed:sJ ops (da listed)
 mid:∃ρ T1 T2,T=T1++T2/\(∀t∈T1,t.k.fu=true->da listed t.i=true)/\(∀t∈T2,(∃v H,t.k= .ea v H)->da listed t.i=false)/\
  fC ρ0 H0 w0 N (eA (da listed) T2 (r T1 H0)) ρ (r T1 H0) w/\∃c:bi,eg ρ c a/\c.size=eY.size/\∀d,c.get d=gA (da listed) d T (eY.get d)
def Ctx.final(c:Ctx P call ops ord eY H0 T cF b6){e:Array Bool}{a:Act}{w:World}(x:Inv ops eY H0 T b6.next ρ0 w0 e a w)(l:∀t∈T,da e t.i=Y):
  ∃ρ,eg ρ cF a/\Step ρ0 H0 w0 ρ b6 w:=by
 obtain⟨ρ,T1,T2,ar,E,s,m,B,h,z,A⟩:=x.mid;obtain⟨ap,aE,bB,cc⟩:=k0 c.ar;have p:=sW c.ar;rw[ar]at p;have y:=(e1.append p).2;have m':=fC.turns (C:=T2) (D:=[]) (L:=da e) (by simpa using y) (λj q n=>by
  have ak:=l j (by rw[ar];simp[q]);refine⟨ak,?_⟩;cases o:j.k with
  |new v b=>exact⟨v,b,rfl⟩
  |ea v H=>rw[s j q ⟨v,H,o⟩]at ak;cases ak
  |_=>rw[o]at n;cases n) (by simpa using m)
 rw[<-kj,<-ar,<-aE]at m';refine⟨ρ,⟨by rw[bB,<-z];exact h.size,λd=> ?_,h.none⟩,m'.done rfl⟩;have:=h.get d;rw[A d,tL (L':=λ_=>Y) (λt aq _=>l t aq),<-cc d]at this;exact this
def L5{a:Array Bool}{i:Nat}(h:i∈Region.ready .any ops a)(au:a.size=ops.size):
  ∃o,ops[i]? =I o/\da a i=X/\ql (da a) o/\i<ops.size:=by
 unfold Region.ready at h;simp only[IJ,vw,de,zA]at h;obtain⟨j,c,d⟩:=h;have k:ops[i]? =I ops[i]:=by simp[j]
 refine⟨ops[i],k,?_,?_,j⟩
 ·unfold da;rw[ef]at c ⊢;have:i<a.size:=ae;simp[this]at c ⊢;exact c
 ·rw[k]at d;simp only[JK,rs,GH]at d;intro e m l;have:=d e m;simpa [l,da]using this
def UM{a:Array Bool}{i:Nat}{o:Oper}(d:ops[i]? =I o)(ak:da a i=X)(k:ql (da a) o)(au:a.size=ops.size):i∈Region.ready .any ops a:=by
 unfold Region.ready;have j:i<ops.size:=(mn.1 d).1;simp only[IJ,vw,de,zA];refine⟨j,?_,?_⟩
 ·unfold da at ak;rw[ef]at ak ⊢;have:i<a.size:=ae;simp[this]at ak ⊢;exact ak
 ·rw[d];simp only[JK,rs,GH];intro e h;by_cases c:Region.binds .any e=Y
  ·have:=k e h c;unfold da at this;rw[this];simp
  ·simp[c]
def Ctx.PE(c:Ctx P call ops ord eY H0 T cF b6){d:Array Bool}(au:d.size=ops.size)(M:Region.ready .any ops d=[]):∀t∈T,da d t.i=true:=by
 have z:=c.B0;simp only[rh,de,ij,vw]at z;obtain⟨F,H,G,_⟩:=z;have x:=(k0 c.ar).1;have key:∀(n:Nat) (A:List b4) (t:b4) (B:List b4),A.length=n->T=A++t::B->da d t.i=true:=by
  intro n
  induction n using HI with
  |_ n N=>
   intro A t B K h;have k:=(c.at h).1;cases ak:da d t.i with
   |true=>rfl
   |false=>
    have:t.i∈Region.ready .any ops d:=by
     refine UM k ak (λe w v=> ?_) au;have j:=Qk k w v;have L:e.on<ops.size:=by
      have a:=G t.o (by
       have:=(mn.1 k);obtain⟨q,E⟩:=this;rw[<-E];simp)
      unfold F1 at a;rw[ij]at a;have q:=a e (by simpa using w);simpa [v]using q
     have y:=F e.on L;rw[DE,<-x,BC]at y;obtain⟨m,hu,l⟩:=y;rw[h]at hu;rcases lm.1 hu with hu|hu
     ·obtain⟨p,C,s⟩:=jk hu;rw[<-l];refine N p.length ?_ p m (C++t::B) rfl (by rw[h,s];simp);rw[<-K,s];simp
     ·rcases hi.1 hu with rfl|hu
      ·exfalso;have a:=H m.i (by rw[<-x,BC];exact⟨m,by rw[h];simp,rfl⟩);rw[<-l]at j;rw[j]at a;cases a
      ·exfalso;have a:=(c.after h hu).2.1;rw[l,j]at a;cases a
    rw[M]at this;simp at this
 intro t aq;obtain⟨A,B,h⟩:=jk aq;exact key _ A t B rfl h
def FX{p q:Nat->Bool}{i:Nat}:∀{l:List Nat},i∈l->(∀j,q j=Y->p j=Y)->p i=Y->q i=X->l.countP q<l.countP p
 |[],h,_,_,_=>by simp at h
 |j::l,h,a,c,d=>by
  have e:∀l:List Nat,l.countP q<=l.countP p:=λl=>List.countP_mono_left λx _ m=>a x m
  simp only[List.countP_cons];rcases hi.1 h with rfl|h
  ·rw[c,d];have:=e l;simp;omega
  ·have:=FX h a c d;cases k:q j with
   |true=>rw[a j k];simp;omega
   |false=>cases p j<;>simp<;>omega
def vS{a:Array Bool}{i:Nat}(c:i<a.size)(j:Nat):da (a.setIfInBounds i Y) j=if j=i then Y else da a j:=by
 unfold da;rw[ef,ef,Array.getElem?_setIfInBounds];by_cases h:i=j
 ·subst h;simp[c]
 ·have aU:¬j=i:=λe=>h e.symm
  simp[h,aU]
end
end
section
variable {E:Env}{P:Program}{call:e}{ops:Array Oper}{ord:List Nat}{eY cF:bi}{H0 b6:ad}{T:List b4}{ρ0:Env}{w0:World}{Q:Exit->Act->World->Prop}
def Ctx.uniq(c:Ctx P call ops ord eY H0 T cF b6){A B:List b4}{t:b4}(h:T=A++t::B){a:b4}(hu:a∈T)(d:a.i=t.i):a=t:=by
 rw[h]at hu;rcases lm.1 hu with hu|hu
 ·exact absurd d (c.before h hu).1
 ·rcases hi.1 hu with rfl|hu
  ·rfl
  ·exact absurd d.symm (c.after h hu).1
def zG(H0:ad)(T:List b4)(N:Nat)(ρ0:Env)(w0:World)(L:Nat->Bool)(ρ:Env)(w:World)(T1 T2:List b4):Prop:=T=T1++T2/\(∀t∈T1,t.k.fu=Y->L t.i=Y)/\(∀t∈T2,(∃v H,t.k= .ea v H)->L t.i=X)/\fC ρ0 H0 w0 N (eA L T2 (r T1 H0)) ρ (r T1 H0) w
def Ctx.next(c:Ctx P call ops ord eY H0 T cF b6){A B:List b4}{t:b4}(h:T=A++t::B){l:Array Bool}(au:l.size=ops.size)(E:sJ ops (da l))(ak:da l t.i=X)
  (R:ql (da l) t.o) {ρ:Env} {n:bi} {a:Act} {x:Value} {w:World} (V:eg ρ n a) (M:n.size=eY.size) (W:∀d,n.get d=gA (da l) d T (eY.get d)) (S:bz ρ t.k.val x) {T1 T2:List b4}
  (m:zG H0 T b6.next ρ0 w0 (da (l.setIfInBounds t.i Y)) ρ w T1 T2):Inv ops eY H0 T b6.next ρ0 w0 (l.setIfInBounds t.i Y) (a.put t.o.dst x) w:=by
 obtain⟨L,_,_,N⟩:=c.at h;have H:t.i<l.size:=by rw[au];exact(mn.1 L).1
 have z:da (l.setIfInBounds t.i Y) t.i=true:=by rw[vS H];simp
 have p:∀j,j≠t.i->da (l.setIfInBounds t.i Y) j=da l j:=λj v=>by rw[vS H];simp[v]
 have K:∀j,da l j=Y->da (l.setIfInBounds t.i Y) j=true:=λj v=>by
  by_cases e:j=t.i
  ·rw[e];exact z
  ·rw[p j e];exact v
 have Q:∃bh,n.put t.o.dst t.k.val=I bh:=by
  cases O:t.o.dst with
  |none=>exact⟨n,rfl⟩
  |some d=>
   have:=N d O;exact⟨{n with t:=bG.put t.k.val (d+1) n.t d},by simp only[bi.put];rw[if_pos (by rw[M];exact this)]⟩
 obtain⟨bh,q⟩:=Q;refine⟨by simpa using au,λi o s G e F C=> ?_,ρ,T1,T2,m.1,m.2.1,m.2.2.1,m.2.2.2,bh,V.put q S,by rw[bi.su q,M],λd=> ?_⟩
 ·by_cases y:i=t.i
  ·subst y;rw[L]at s;cases s;exact K _ (R e F C)
  ·rw[p i y]at G;exact K _ (E i o s G e F C)
 ·rw[bi.ta q d,c.fU h E ak z p d,W d]
def Ctx.norm(c:Ctx P call ops ord eY H0 T cF b6){N:Nat}{L:Nat->Bool}{ρ:Env}{w:World}:∀{T2 T1:List b4},zG H0 T N ρ0 w0 L ρ w T1 T2->
  ∃y n,zG H0 T N ρ0 w0 L ρ w y n/\∀d j,n=d::j->d.k.fu=Y/\L d.i=X
 |[],T1,m=>⟨T1,[],m,λd j h=>by cases h⟩
 |d::T2,T1,m=>by
  by_cases l:d.k.fu=Y/\L d.i=X
  ·exact⟨T1,d::T2,m,λE j h=>by simp only[List.cons.injEq]at h;rw[<-h.1];exact l⟩
  ·obtain⟨o,z,p,A⟩:=m;have s:=sW c.ar;rw[o]at s;have B:=(e1.append s).2;have m':=fC.turns (C:=[d]) (D:=T2) (L:=L) B (λv a e=>by
    have:v=d:=by simpa using a
    subst this;have ak:L v.i=true:=by
     cases a:L v.i with
     |true=>rfl
     |false=>exact absurd ⟨e,a⟩ l
    refine⟨ak,?_⟩;cases q:v.k with
    |new x b=>exact⟨x,b,rfl⟩
    |ea x H=>rw[p v (by simp) ⟨x,H,q⟩]at ak;cases ak
    |_=>rw[q]at e;cases e) A
   rw[<-kj]at m';refine c.norm (T2:=T2) (T1:=T1++[d]) ⟨by rw[o];simp,λv a e=> ?_,λv a=>p v (by simp[a]),m'⟩;rcases lm.1 a with a|a
   ·exact z v a e
   ·have:v=d:=by simpa using a
    subst this;cases a:L v.i with
    |true=>rfl
    |false=>exact absurd ⟨e,a⟩ l
def BV{L:Nat->Bool}{d:b4}{v:aa}{b:b_}(o:d.k= .new v b)(l:L d.i=Y):∀{C D:List b4} {H:ad},e1 H (C++d::D)->eA L (C++d::D) H (r C H).next=I b
 |[],D,H,_=>by simp[eA,o,l,r]
 |c::C,D,H,e=>by
  have a:=BV o l (C:=C) (D:=D) e.2;have p:∀{C:List b4} {H:ad},e1 H C->H.next<=(r C H).next:=by
   intro C
   induction C with
   |nil=>intro H _;exact aV _
   |cons x C s=>intro H h;exact gh h.1 (s h.2)
  by_cases n:∃v b,c.k= .new v b
  ·obtain⟨w,cN,m⟩:=n;have j:=p (e1.append e.2).1;have q:=e.2;rw[m]at j q a;simp only[K.heap,ad.bb]at j a;simp only[fg,eA,m,r,K.heap];rw[if_neg ae];exact a
  ·rw[fg,tE λv b h=>n ⟨v,b,h⟩,r];exact a
def AV{l:Nat}:∀{C:List b4} {H:ad},(∀x∈C,nb x.k=Y)->l<H.next->(r C H).get l=H.get l
 |[],H,_,_=>rfl
 |c::C,H,a,ak=>by
  have e:=a c (by simp);rw[r];cases h:c.k with
  |new v b=>
   rw[AV (λx d=>a x (by simp[d])) (by simp only[K.heap,ad.bb];omega)];exact ad.dv ae
  |ea v H'=>rw[h]at e;cases e
  |_=>exact AV (λx d=>a x (by simp[d])) ak
def Rel.TY{ρ:Env}{H:ad}{w:World}{b:b_}(h:b≠ .dead->∃c,ρ H.next=I c/\i8 ρ w c b):Rel ρ (H.push b).only w where
 row l ro esz els a:=by
  obtain⟨rfl,rfl⟩:=ad.v8 a;obtain⟨c,d,i⟩:=h (by intro e;cases e);exact⟨c,d,i⟩
 map l es a:=by
  obtain⟨rfl,rfl⟩:=ad.v8 a;obtain⟨c,d,i⟩:=h (by intro e;cases e);exact⟨c,d,i⟩
 apart l l' c k d i j _ _:=by
  exfalso;have aI:∃x,(H.push b).only.get l=I x:=by
   unfold ad.rw at d;cases a:(H.push b).only.get l with
   |none=>simp[a]at d
   |some x=>exact⟨x,rfl⟩
  have a2:∃x,(H.push b).only.get l'=I x:=by
   unfold ad.live at i;cases a:(H.push b).only.get l' with
   |none=>simp[a]at i
   |some x=>exact⟨x,rfl⟩
  obtain⟨x,aI⟩:=aI;obtain⟨y,a2⟩:=a2;exact j ((ad.v8 aI).1.trans (ad.v8 a2).1.symm)
def Ctx.any(c:Ctx P call ops ord eY H0 T cF b6)(bL:jH E P call)(bG:E.le ρ0)(bK:∀ρ a w,eg ρ cF a->Step ρ0 H0 w0 ρ b6 w->Q .normal a w):
  ∀(au:Nat) (s:Array Bool) (a:Act) (w:World),Inv ops eY H0 T b6.next ρ0 w0 s a w->(AB ops.size).countP (λj=> !da s j)<=au->wpAny P .any ops Q au s a w:=by
 have bi:∀s a w,Inv ops eY H0 T b6.next ρ0 w0 s a w->Region.ready .any ops s=[]->Q .normal a w:=by
  intro s a w z aD;obtain⟨ρ,y,ah⟩:=c.final z (c.PE z.size aD);exact bK ρ a w y ah
 intro au
 induction au with
 |zero=>
  intro s a w z bM;have aD:Region.ready .any ops s=[]:=by
   rw[List.eq_nil_iff_forall_not_mem];intro i a3;obtain⟨o,y,ah,aZ,a0⟩:=L5 a3 z.size;have cf:0<(AB ops.size).countP (λj=> !da s j):=List.countP_pos_iff.2 ⟨i,by simpa using a0,by simp[ah]⟩;omega
  exact⟨aD,bi _ _ _ z aD⟩
 |succ au aN=>
  intro s a w z bM;refine⟨λaD=>bi _ _ _ z aD,λi a3=> ?_⟩;obtain⟨o,av,ak,aj,a5⟩:=L5 a3 z.size;have bt:=c.B0;simp only[rh,de,ij,vw]at bt;have bs:=bt.1 i a5;rw[DE,<-(k0 c.ar).1,BC]at bs;obtain⟨t,aq,rfl⟩:=bs;have bV:=c.mem aq;obtain rfl:t.o=o:=Option.some.inj (bV.symm.trans av);obtain⟨ρ,T1,T2,ap,aE,bB,m,bd,ao,ba,aU⟩:=z.mid;have bu:t.i<s.size:=by rw[z.size];exact a5
  have ay:da (s.setIfInBounds t.i Y) t.i=true:=by rw[vS bu];simp
  have ab:∀j,j≠t.i->da (s.setIfInBounds t.i Y) j=da s j:=λj aA=>by rw[vS bu];simp[aA]
  have a2:(AB ops.size).countP (λj=> !da (s.setIfInBounds t.i Y) j)<=au:=by
   have:=FX (p:=λj=> !da s j) (q:=λj=> !da (s.setIfInBounds t.i Y) j) (i:=t.i) (l:=AB ops.size) (by simpa using a5)
    (λj aA=>by
     by_cases e:j=t.i
     ·rw[e,ay]at aA;cases aA
     ·simp only[ab j e]at aA;exact aA) (by simp[ak]) (by simp[ay])
   omega
  obtain⟨aV,aP,O⟩:=jk aq;have br:∀d∈t.o.looksAt ops,bd.get d=t.V.get d:=λd bN=>by rw[aU d];exact c.looks O z.closed aj ak d bN
  have aS:=P_ br;have bW:Region.wanted t.o (yielded ops a.tmps)=kX ops t.V t.o:=(EE ao t.o).trans (Qa br);unfold wpOp;rw[av];simp only[bW];have bc:t.k.fu=X->∀x,bz ρ t.k.val x->wpAny P .any ops Q au (s.setIfInBounds t.i Y) (a.put t.o.dst x) w:=by
   intro G x M;refine aN _ _ _ (c.next O z.size z.closed ak aj ao ba aU M (T1:=T1) (T2:=T2) ⟨ap,λn hu an=> ?_,λn hu aw=> ?_,?_⟩) a2
   ·have:=aE n hu an;by_cases e:n.i=t.i
    ·rw[e];exact ay
    ·rw[ab _ e];exact this
   ·have aC:n.i≠t.i:=λe=>by
     have:=c.uniq O (by rw[ap];simp[hu]) e;subst this;obtain⟨v,H,W⟩:=aw;rw[W]at G;cases G
    rw[ab _ aC];exact bB n hu aw
   ·rw[tC (L':=da s) λn hu v b W=>ab _ λe=>by
     have:=c.uniq O (by rw[ap];simp[hu]) e;subst this;rw[W]at G;cases G]
    exact m
  rcases qQ (c.at O).2.2.1 with⟨aF,W⟩|⟨aF,W⟩
  ·rw[aF];simp only[if_true];refine .inl ?_;have be:t.k.fu=Y->∃C D,T2=C++t::D:=λG=>by
    rw[ap]at aq;rcases lm.1 aq with aq|aq
    ·have:=aE t aq G;rw[ak]at this;cases this
    ·exact jk aq
   have aB:=sW c.ar;cases F:t.k with
   |skip=>rw[F]at W;exact W.elim
   |pure v=>
    rw[F]at W;have ai:=lG.congr (λx M=>(aS x M).symm) W;exact LK ai ao λx M=>bc (by rw[F];rfl) x (by rw[F];exact M)
   |read v=>
    obtain⟨aQ,aY,⟨f1,f2,f3,f4⟩,f5⟩:=c.norm (ρ0:=ρ0) (w0:=w0) (N:=b6.next) (L:=da s) (ρ:=ρ) (w:=w) (T2:=T2) (T1:=T1) ⟨ap,aE,bB,m⟩;have aR:∃aW,Rel ρ aW w/\hy P t.o.op t.V aW=I v:=by
     rcases OI F c.win aq with bO|bT
     ·
       refine⟨_,f4.rel,?_⟩;have bo:hy P t.o.op t.V (r aV H0)=I v:=by
        rcases qQ (c.at O).2.2.1 with⟨_,bn⟩|⟨M,_⟩
        ·rw[F]at bn;exact bn
        ·rw[aF]at M;cases M
       have bm:∀n∈T,n.k.fu=Y->n.i≠t.i/\(dp (dR ops) n.i t.i=Y\/dp (dR ops) t.i n.i=Y):=λn hu G=>by
        have aC:n.i≠t.i:=λe=>by
         have:=c.uniq O hu e;subst this;rw[F]at G;cases G
        obtain⟨cc,cd,y⟩:=jk hu;refine⟨aC,abp bO ?_ aC (c.at y).1 (Jh (c.at y).2.2.1 G)⟩;rw[<-(k0 c.ar).1,BC];exact⟨n,hu,rfl⟩
       have bR:∀n∈aV,n.k.fu=Y->da s n.i=true:=λn hu G=>by
        rcases(bm n (by rw[O];simp[hu]) G).2 with y|y
        ·exact kZ z.closed _ _ av aj _ y
        ·have:=(c.before O hu).2.1;rw[y]at this;cases this
       have bP:∀n∈aP,n.k.fu=Y->da s n.i=false:=λn hu G=>by
        have bv:n∈T:=by rw[O];simp[hu]
        rcases(bm n bv G).2 with y|y
        ·have:=(c.after O hu).2.1;rw[y]at this;cases this
        ·cases am:da s n.i with
         |false=>rfl
         |true=>
          have aM:=c.mem bv;have:=kZ z.closed _ _ aM (z.closed _ _ aM am) _ y;rw[ak]at this;cases this
       have a9:aQ++aY=aV++t::aP:=by rw[<-f1,<-O]
       rcases yz.1 a9 with⟨bj,aJ,a1⟩|⟨c',az,al⟩
       ·cases bj with
        |nil=>rw[KL]at aJ;rw[<-aJ];exact bo
        |cons n bC=>
         obtain⟨af,aa⟩:=f5 n (bC++t::aP) a1;have:=bR n (by rw[aJ];simp) af;rw[aa]at this;cases this
       ·have bU:∀(aI:List b4) (H:ad),(∀n∈aI,n.k.fu=X)->r aI H=H:=by
         intro aI
         induction aI with
         |nil=>intro H _;rfl
         |cons n aI aN=>intro H bf;rw[r,vA (bf n (by simp))];exact aN H λn hu=>bf n (by simp[hu])
        rw[az,kj,bU c' _ ?_]
        ·exact bo
        ·intro n hu;cases G:n.k.fu with
         |false=>rfl
         |true=>
          have y:=f2 n (by rw[az];simp[hu]) G;have ah:n∈t::aP:=by rw[al];simp[hu]
          rcases hi.1 ah with rfl|ah
          ·rw[F]at G;cases G
          ·have:=bP n ah G;rw[y]at this;cases this
     ·rcases aaG bT with bw|bS
      rotate_left
      ·obtain⟨A,n,B,b_,b,af,aa,bD,bE,bF⟩:=KK bS;refine⟨_,Rel.TY λaK=> ?_,L3 bF⟩;have am:=kZ z.closed _ _ av aj _ bD;have a9:aQ++aY=A++n::B:=by rw[<-f1,<-af]
       rcases yz.1 a9 with⟨bj,aJ,a1⟩|⟨c',az,al⟩
       ·have a7:=f4.jz (r A H0).next b (by
         rw[f1]at aB;have R:=(e1.append aB).2;rw[a1]at R ⊢;rw[aJ,kj];exact BV aa am R)
        obtain⟨_,_,_,aT,aO,aH,_⟩:=a7;exact⟨aT,aO,aH⟩
       ·cases c' with
        |nil=>
         have a7:=f4.jz (r A H0).next b (by
          rw[f1]at aB;have R:=(e1.append aB).2;rw[pq]at al;rw[KL]at az;rw[<-al]at R ⊢;rw[az]at R ⊢;exact BV (C:=[]) aa am R)
         obtain⟨_,_,_,aT,aO,aH,_⟩:=a7;exact⟨aT,aO,aH⟩
        |cons x ce=>
         simp only[fg,List.cons.injEq]at al;obtain⟨rfl,al⟩:=al;have bl:(r aQ H0).get (r A H0).next=I b:=by
          rw[az,kj,r,aa];rw[AV (λx M=>bE x (by rw[al];simp[M])) (by simp[K.heap])];exact ad.a_ _ b
         cases b with
         |row ro esz els=>exact f4.rel.row _ _ _ _ bl
         |map es=>exact f4.rel.map _ _ bl
         |dead=>exact absurd rfl aK
      refine⟨_,f4.rel,?_⟩;rw[show j7 (dR ops) (o5 P t.o.op t.V v) t.i T H0=j7 (dR ops) (o5 P t.o.op t.V v) t.i (aQ++aY) H0 by rw[<-f1]]at bw;exact L3 (DQ bw (λn hu an=>by
       cases aK:dp (dR ops) t.i n.i with
       |false=>rfl
       |true=>
        have aM:=c.mem (t:=n) (by rw[f1];simp[hu]);have:=kZ z.closed _ _ aM (z.closed _ _ aM (f2 n hu an)) _ aK;rw[ak]at this;cases this) (λn bA hu=>by
       obtain⟨af,aa⟩:=f5 n bA hu;refine⟨af,?_⟩;cases aK:dp (dR ops) n.i t.i with
       |false=>rfl
       |true=>
        have:=kZ z.closed _ _ av aj _ aK;rw[aa]at this;cases this))
    obtain⟨aW,bX,aR⟩:=aR;rw[<-Eu aS]at aR;exact L4 bX aR ao λx M=>bc (by rw[F];rfl) x (by rw[F];exact M)
   |new v b=>
    obtain⟨C,D,S⟩:=be (by rw[F];rfl);have y:T=(T1++C)++t::D:=by rw[ap,S];simp
    have a4:=(c.at y).2.2.1;rcases qQ a4 with⟨_,aL⟩|⟨M,_⟩
    ·rw[F]at aL;have ai:=lG.congr (λx M=>(aS x M).symm) aL;have R:e1 (r T1 H0) (C++t::D):=by
      have:=aB;rw[ap,S]at this;exact(e1.append this).2
     obtain⟨aO,aH⟩:=Lp (L:=da s) (L':=da (s.setIfInBounds t.i Y)) F ak ay R
      (λn hu=>(ab _ (c.before y (by simp[hu])).1).symm) (λn hu=>(ab _ (Ne.symm (c.after y hu).1)).symm)
     have bk:(r T1 H0).next<=(r C (r T1 H0)).next:=(e1.append R).1.le
     have bq:(r C (r T1 H0)).next<b6.next:=by
      have ah:=(e1.append R).2;have aZ:=ah.2.le;rw[F]at aZ;have a0:b6=r D (K.heap (r C (r T1 H0)) (.new v b)):=by
       rw[(k0 c.ar).2.1,y,kj,kj,r,F]
      rw[a0];simp only[K.heap,ad.bb]at aZ ⊢;omega
     rw[S]at m;have bQ:jK P t.o.op bd (r C (r T1 H0)).next=I (v,b):=by rw[<-kj];exact ai
     refine KM bQ ao (m.fresh _ bk bq aH) λx ca cb aT aX bx b2 b3 b5 b7 hH b8 b9 bZ b0 b1=> ?_
     have m':=m.early bk bq aH bx b2 b3 b5 b7 hH b8 b9 bZ b0 b1;rw[<-aO]at m';refine aN _ _ _ (c.next O z.size z.closed ak aj (ao.mono bx) ba aU (by rw[F];exact aX) (T1:=T1) (T2:=C++t::D) ⟨by rw[ap,S],λn hu an=> ?_,λn hu aw=> ?_,m'⟩) a2
     ·have:=aE n hu an;by_cases e:n.i=t.i
      ·rw[e];exact ay
      ·rw[ab _ e];exact this
     ·have aC:n.i≠t.i:=λe=>by
       have:=c.uniq O (by rw[ap,S];simp at hu ⊢;exact .inr hu) e;subst this;obtain⟨b_,H,ai⟩:=aw;rw[F]at ai;cases ai
      rw[ab _ aC];exact bB n (by rw[S];exact hu) aw
    ·rw[aF]at M;cases M
   |ea v H'=>
    obtain⟨C,D,S⟩:=be (by rw[F];rfl);have y:T=(T1++C)++t::D:=by rw[ap,S];simp
    have a4:=(c.at y).2.2.1;rcases qQ a4 with⟨_,aL⟩|⟨M,_⟩
    ·rw[F]at aL;have ai:=lG.congr (λx M=>(aS x M).symm) aL;have R:e1 (r T1 H0) (C++t::D):=by
      have:=aB;rw[ap,S]at this;exact(e1.append this).2
     have bh:=c.ea;rw[y]at bh;have bg:=(vn bh F).2;rw[S]at m;have aG:=fC.turns (C:=C) (D:=t::D) (L:=da s) R (λn hu G=>by
      have am:=kZ z.closed _ _ av aj _ (bg n (by simp[hu]) G);refine⟨am,?_⟩;cases bp:n.k with
      |new x b=>exact⟨x,b,rfl⟩
      |ea x H=>rw[bB n (by rw[S];simp[hu]) ⟨x,H,bp⟩]at am;cases am
      |_=>rw[bp]at G;cases G) m
     rw[tE (λv b h=>by rw[F]at h;cases h),F]at aG;simp only[K.heap]at aG;have a6:e1 H' D:=by have:=(e1.append R).2.2;rw[F]at this;exact this
     have bI:b6=r D H':=by rw[(k0 c.ar).2.1,y,kj,r,F];rfl
     have bJ:H'.next<=b6.next:=by rw[bI];exact a6.le
     rw[kj]at ai;refine F4 (H:=r C (r T1 H0)) (H':=H') bL aG.rel ⟨λl af aa=>aG.fresh l af ae ?_,Env.le_trans bG aG.le⟩ ai ao λx ca cb af aa=> ?_
     ·cases a8:eA (da s) D H' l with
      |none=>rfl
      |some b=>have:=tD a6 a8;omega
     ·have bY:=aG.step aa bJ (λl b a8=>tD a6 a8);refine aN _ _ _ (c.next O z.size z.closed ak aj (ao.mono aa.le) ba aU (by rw[F];exact af) (T1:=T1++C++[t]) (T2:=D) ⟨by rw[y];simp,λn hu an=> ?_,λn hu aw=> ?_,?_⟩) a2
      ·by_cases e:n.i=t.i
       ·rw[e];exact ay
       ·rw[ab _ e];simp only[lm,List.mem_singleton]at hu;rcases hu with(hu|hu)|rfl
        ·exact aE n hu an
        ·exact kZ z.closed _ _ av aj _ (bg n (by simp[hu]) an)
        ·exact absurd rfl e
      ·rw[ab _ (Ne.symm (c.after y hu).1)];exact bB n (by rw[S];simp[hu]) aw
      ·have bH:r (T1++C++[t]) H0=H':=by rw[kj,r,F];rfl
       rw[bH,tC (L':=da s) λn hu v b W=>ab _ (Ne.symm (c.after y hu).1)];exact bY
    ·rw[aF]at M;cases M
  ·rw[aF];simp only[FG,if_false];exact bc (by rw[W];rfl) undef (by rw[W];exact .tuple [] [] .nil)
def ab0{id:Nat}{a:Act}{w:World}(y:P.follows .mixedOrders=Y)(x:jH E P call)(c:Ctx P call ops ord eY H0 T cF b6)(v:Rel ρ0 H0 w)(n:h8 E ρ0 H0.next b6.next)(A:eg ρ0 eY a)
  (s:∀ρ a m,eg ρ cF a->Step ρ0 H0 w ρ b6 m->Q .normal a m):(Code.region id ops Y).wp P Q a w:=by
 have k:∀j,da (CD ops.size X) j=false:=λj=>by
  unfold da;rw[ef];by_cases h:j<ops.size<;>simp[h]
 refine wp_region_any y (c.any (ρ0:=ρ0) (w0:=w.drew) x n.le (λρ a m q e=>s ρ a m q ?_) _ _ _ _ ⟨by simp,λi o _ ak=>absurd ak (by rw[k];simp),ρ0,[],T,rfl,by simp,λt _ _=>k _,?_,eY,A,rfl,λd=> ?_⟩ ?_)
 ·exact⟨e.le,e.next,e.aP,e.rel,e.os,e.tape,e.output,e.size,e.frame,e.own,e.ro⟩
 ·have z:eA (da (CD ops.size X)) T (r [] H0)=λ_=>none:=by
   have:∀(T:List b4) (H:ad),eA (da (CD ops.size X)) T H=λ_=>none:=by
    intro T
    induction T with
    |nil=>intro H;rfl
    |cons t T p=>
     intro H
     funext l
     unfold eA;split
     ·rw[p,k];simp
     ·rw[p]
   exact this T _
  rw[z];exact fC.start v.drew n.new
 ·rw[ww λt _ _=>k _]
 ·refine gh List.countP_le_length ?_;simp
