/-
  Texts of one proof, laid together: SgJ SgK Qa Qb Qc Qd Qe Qf Qg Qh.
-/
import Derived.Test.YtmhhnnklfcbgfaaGreatMO
set_option linter.unusedVariables false
set_option linter.unusedSimpArgs false
set_option linter.defProp false
open Option renaming some→D,none→I
open Bool renaming true→C,false→Z
open Go.bo.aa renaming int→J,bool→y
open Go.IntKind renaming i64→X
namespace Go.bp
open Go.bo
section
open Go.bo
open Go.bo
open Go.bo
section
variable {n m:Nat}{l:List bz}{zX:Nat->Prop}{Y:Nat->Nat->Prop}{S:bI}
def dD.abr{d:Nat->Prop}{e:Nat->Nat->Prop}(h:dD n m l zX Y S)(aD:∀v,zX v->d v)(f:∀v t,Y v t->e v t):dD n m l d e S:=
 ⟨h.dc,h.aW,h.fC,h.ls,h.lw,h.dY,h.jI,h.iJ,h.cn,h.sound,h.gs,h.qs,h.sle,h.wt,λv t a b=>h.kZ v t a λc=>b (f v t c),λv a=>h.fe v λc=>a (aD v c)⟩
def iL(S b:bI):Prop:=∀u,(S.w u=Z->S.s u=S.a u)->b.w u=Z->b.s u=b.a u
def iL.refl(S:bI):iL S S:=λ_ q=>q
def iL.trans{a b c:bI}(h:iL a b)(k:iL b c):iL a c:=λu q=>k u (h u q)
def dD.n0(h:dD n m l zX Y S){a b:Nat}(O:a<n+m*8)(A:b<n+m*8)(E:∀s,df n l a s->df n l b s):dD n m l zX Y (gp S a b)/\hb S (gp S a b)/\(a=b\/b∈(gp S a b).g a)/\iL S (gp S a b):=by
 unfold gp;by_cases e:b∈S.g a\/a=b
 ·rw[if_pos e];exact⟨h,.refl S,e.elim .inr .inl,.refl S⟩
 ·rw[if_neg e];simp only[not_or]at e;obtain⟨V,x⟩:=e;have Q:a<S.fh.length:=by rw[h.aW];exact O
  have k:∀u,(({S with fh:=S.fh.set a (S.g a++[b])}:bI)).g u=if u=a then S.g a++[b]else S.g u:=λu=>jH Q
  have B:∀u,∀c∈S.g u,c∈(({S with fh:=S.fh.set a (S.g a++[b])}:bI)).g u:=by
   intro u c aA;rw[k];split
   ·rename_i N;subst N;exact List.mem_append.2 (.inl aA)
   ·exact aA
  have ae:dD n m l (λv=>zX v\/v=a) Y ({S with fh:=S.fh.set a (S.g a++[b])}:bI):=by
   refine⟨h.dc,by simpa using h.aW,h.fC,h.ls,h.lw,h.dY,?_,h.iJ,h.cn,h.sound,?_,h.qs,h.sle,h.wt,?_,?_⟩
   ·intro v c aA;rw[k]at aA;split at aA
    ·rcases List.mem_append.1 aA with aA|aA
     ·exact h.jI a c aA
     ·simp only[List.mem_singleton]at aA;subst aA;exact A
    ·exact h.jI v c aA
   ·intro v c aA s f;rw[k]at aA;split at aA
    ·rename_i gH;subst gH;rcases List.mem_append.1 aA with aA|aA
     ·exact h.gs v c aA s f
     ·simp only[List.mem_singleton]at aA;subst aA;exact E s f
    ·exact h.gs v c aA s f
   ·intro v t R U q a8;have:=h.kZ v t R U q a8;split at this
    ·rename_i r;rw[if_pos r];exact this.imp id (B _ _)
    ·rename_i r;rw[if_neg r];exact this.imp id (B _ _)
   ·intro v j hw;simp only[not_or]at j;obtain⟨f1,f2⟩:=h.fe v j.1 hw;rw[k,if_neg j.2];exact⟨f1,f2⟩
  obtain⟨d,i,G,H,K,L,M⟩:=ae.eS A (h.dY a) λs f=>E s (h.sound a s f)
  generalize Go.bp.eS ({S with fh:=S.fh.set a (S.g a++[b])}:bI) b (S.a a)=o at d i G H K L M ⊢;have p:∀u,o.g u=if u=a then S.g a++[b]else S.g u:=λu=>by rw[<-k];show o.fh.getD u []=(S.fh.set a (S.g a++[b])).getD u [];rw[K]
  have P:∀v,∀c∈S.g v,c∈o.g v:=λv c aA=>by
   rw[p];split
   ·rename_i gH;subst gH;exact List.mem_append.2 (.inl aA)
   ·exact aA
  refine⟨⟨d.dc,d.aW,d.fC,d.ls,d.lw,d.dY,d.jI,d.iJ,d.cn,d.sound,d.gs,d.qs,d.sle,d.wt,d.kZ,?_⟩,⟨i.a,P,i.q,i.s,i.m⟩,.inr (by rw[p,if_pos rfl];simp),M⟩;intro v j hw;by_cases gH:v=a
  ·subst gH;have T:S.w v=false:=by rw[L v x]at hw;exact hw
   obtain⟨f1,f2⟩:=h.fe v j T;have z:o.a v=S.a v:=H v x;refine⟨λc aA s f=> ?_,?_⟩
   ·rw[z]at f;rw[p,if_pos rfl]at aA;rcases List.mem_append.1 aA with aA|aA
    ·exact i.a c s (f1 c aA s f)
    ·simp only[List.mem_singleton]at aA;subst aA;exact G s f
   ·rw[z];exact(i.s v).trans f2
  ·exact d.fe v (by simp[j,gH]) hw
def j8(n t:Nat)(S:bI)(q:Ask):Prop:=if q.eO then q.o=c5 n t q.f\/q.o∈S.g (c5 n t q.f)else c5 n t q.f=q.o\/c5 n t q.f∈S.g q.o
def j8.sL{n t:Nat}{S a:bI}{q:Ask}(h:j8 n t S q)(g:hb S a):j8 n t a q:=by
 unfold j8 at h ⊢;split at h
 ·rename_i e;rw[if_pos e];exact h.imp id (g.g _ _)
 ·rename_i e;rw[if_neg e];exact h.imp id (g.g _ _)
def dD.answer(j:e0 n m l)(h:dD n m l zX Y S){v t:Nat}{q:Ask}(i:df n l v t)(a8:(q.eO=C/\bz.load q.o v q.f∈l)\/(q.eO=Z/\bz.store v q.o q.f∈l)):dD n m l zX Y (k0 n t S q)/\hb S (k0 n t S q)/\j8 n t (k0 n t S q) q/\iL S (k0 n t S q):=by
 have u:=i.site j;unfold k0 j8;rcases a8 with⟨e,a8⟩|⟨e,a8⟩
 ·obtain⟨k,p,r⟩:=j _ a8;simp only[e,if_true];obtain⟨c,d,a3,a4⟩:=h.n0 (a:=c5 n t q.f) (b:=q.o) (by unfold c5;omega) (by omega) λs g=> .load a8 i g
  exact⟨c,d,a3.imp Eq.symm id,a4⟩
 ·obtain⟨k,p,r⟩:=j _ a8;simp only[e,Bool.false_eq_true,if_false];obtain⟨c,d,a3,a4⟩:=h.n0 (a:=q.o) (b:=c5 n t q.f) (by omega) (by unfold c5;omega) λs g=> .store a8 i g
  exact⟨c,d,a3.imp Eq.symm id,a4⟩
def dD.answers(d:e0 n m l){v t:Nat}(c:df n l v t):∀{qs:List Ask} {S:bI},dD n m l zX Y S->(∀q∈qs,(q.eO=C/\bz.load q.o v q.f∈l)\/(q.eO=Z/\bz.store v q.o q.f∈l))->dD n m l zX Y (iP n t qs S)/\hb S (iP n t qs S)/\(∀q∈qs,j8 n t (iP n t qs S) q)/\iL S (iP n t qs S)
 |[],S,h,_=>⟨h,.refl S,λq a8=>by simp at a8,.refl S⟩
 |q::qs,S,h,a8=>by
  obtain⟨e,g,a3,a4⟩:=h.answer d c (a8 q (by simp));obtain⟨i,b,j,k⟩:=dD.answers d c (qs:=qs) e λa ca=>a8 a (by simp[ca])
  refine⟨i,g.trans b,λa ca=> ?_,a4.trans k⟩;rcases List.mem_cons.1 ca with rfl|ca
  ·exact a3.sL b
  ·exact j a ca
def dD.sites(g:e0 n m l){v:Nat}:∀{ts:List Nat} {S:bI},dD n m l zX (λu t=>u=v/\t∈ts) S->(∀t∈ts,df n l v t)->dD n m l zX (λ_ _=>False) (nH n v ts S)/\hb S (nH n v ts S)/\iL S (nH n v ts S)
 |[],S,h,_=>⟨h.abr (λ_ a=>a) λ_ _ a=>by simp at a,.refl S,.refl S⟩
 |t::ts,S,h,f=>by
  obtain⟨b,d,a3,a4⟩:=dD.answers g (f t (by simp)) h (qs:=S.q v) (h.qs v);have i:dD n m l zX (λu t=>u=v/\t∈ts) (iP n t (S.q v) S):=by
   refine⟨b.dc,b.aW,b.fC,b.ls,b.lw,b.dY,b.jI,b.iJ,b.cn,b.sound,b.gs,b.qs,b.sle,b.wt,λu c hu p q a8=> ?_,b.fe⟩;by_cases e:u=v/\c=t
   ·obtain⟨rfl,rfl⟩:=e;rw[d.q]at a8;exact a3 q a8
   ·refine b.kZ u c hu (λaA=> ?_) q a8;rcases List.mem_cons.1 aA.2 with ae|ae
    ·exact e ⟨aA.1,ae⟩
    ·exact p ⟨aA.1,ae⟩
  obtain⟨j,k,o⟩:=dD.sites g i λc ca=>f c (by simp[ca])
  exact⟨j,d.trans k,a4.trans o⟩
def dD.DZ{v:Nat}(z:v<n+m*8):∀{bs:List Nat} {S:bI},dD n m l zX Y S->(∀b∈bs,b∈S.g v)->dD n m l zX Y (jG v bs S)/\hb S (jG v bs S)/\iL S (jG v bs S)/\(jG v bs S).a v=S.a v/\(jG v bs S).fh=S.fh/\∀b∈bs,∀s,(S.a v).testBit s=C->((jG v bs S).a b).testBit s=C
 |[],S,h,_=>⟨h,.refl S,.refl S,rfl,rfl,λb d=>by simp at d⟩
 |b::bs,S,h,d=>by
  have k:=d b (by simp);obtain⟨A,B,E,G,o,K,H⟩:=h.eS (h.jI v b k) (h.dY v) λs f=>h.gs v b k s (h.sound v s f)
  have j:(Go.bp.eS S b (S.a v)).a v=S.a v:=by
   by_cases e:v=b
   ·subst e;unfold Go.bp.eS;rw[if_pos (Nat.or_self _)]
   ·exact G v e
  have x:∀u,(Go.bp.eS S b (S.a v)).g u=S.g u:=λu=>by unfold bI.g;rw[o]
  obtain⟨p,i,q,r,t,w⟩:=dD.DZ z A (bs:=bs) λc aA=>by rw[x];exact d c (by simp[aA])
  refine⟨p,B.trans i,iL.trans H q,r.trans j,t.trans o,λc aA s f=> ?_⟩;rcases List.mem_cons.1 aA with rfl|aA
  ·exact i.a _ _ (E s f)
  ·exact w c aA s (by rw[j];exact f)
abbrev iM(n m:Nat)(l:List bz)(S:bI):Prop:=dD n m l (λ_=>False) (λ_ _=>False) S
structure ps(S c:bI):Prop where
 a:∀v s,(S.a v).testBit s=true->(c.a v).testBit s=true
 g:∀v,∀b∈S.g v,b∈c.g v
 q:∀v,c.q v=S.q v
def dD.step(ad:e0 n m l)(h:iM n m l S){v:Nat}(E:v∈S.work):iM n m l (yr n S v)/\ps S (yr n S v)/\(yr n S v).M<S.M:=by
 have G:=h.iJ v E;have Y:v<S.waits.length:=by rw[h.lw];exact G
 have W:v<S.seen.length:=by rw[h.ls];exact G
 have H:S.s v|||S.a v=S.a v:=by
  apply Nat.eq_of_testBit_eq;intro i;rw[Nat.testBit_or];cases T:(S.s v).testBit i with
  |true=>rw[h.sle v i T];rfl
  |false=>rfl
 have K:∀u,(j5 (h7 S v) v).w u=if u=v then Z else S.w u:=λu=>jH Y
 have A:∀u,(j5 (h7 S v) v).s u=if u=v then S.a v else S.s u:=λu=>by
  have:=jH (x:=S.s v|||S.a v) (d:=0) (j:=u) W;rw[H]at this;show(S.seen.set v (S.s v|||S.a v)).getD u 0=_;rw[H];exact this
 have ae:dD n m l (λu=>u=v) (λu t=>u=v/\t∈ir S v) (j5 (h7 S v) v):=by
  refine⟨h.dc,h.aW,h.fC,by simpa [j5,h7]using h.ls,by simpa [j5,h7]using h.lw,h.dY,h.jI,λu hu=>h.iJ u (List.mem_of_mem_erase hu),h.cn.erase v,h.sound,h.gs,h.qs,?_,?_,?_,?_⟩
  ·intro u s k;rw[A]at k;split at k
   ·rename_i e;subst e;exact k
   ·exact h.sle u s k
  ·intro u;rw[K];show _↔u∈S.work.erase v;rw[h.cn.mem_erase_iff];split
   ·rename_i e;simp[e]
   ·rename_i e;rw[h.wt];simp[e]
  ·intro u t f af q a8;have aa:q∈S.q u:=a8;refine h.kZ u t ?_ (λaA=>aA) q aa;rw[A]at f;split at f
   ·rename_i e;subst e;cases ab:(S.s u).testBit t with
    |true=>rfl
    |false=>
     exfalso;apply af;refine⟨rfl,?_⟩;unfold ir;rw[List.mem_filter];refine⟨?_,by rw[f,ab];rfl⟩;rw[List.mem_range];rcases Nat.lt_or_ge t 64 with B|B
     ·exact B
     ·have:=Nat.testBit_lt_two_pow (Nat.lt_of_lt_of_le (h.dY u) (Nat.pow_le_pow_right (by omega) B));rw[this]at f;cases f
   ·exact f
  ·intro u hu hw;rw[K,if_neg hu]at hw;obtain⟨f1,f2⟩:=h.fe u (λaA=>aA) hw;refine⟨f1,?_⟩;rw[A,if_neg hu];exact f2
 obtain⟨L,p,a3⟩:=dD.sites ad ae λt f=>by
  unfold ir at f;rw[List.mem_filter]at f;simp only[Bool.and_eq_true]at f;exact h.sound v t f.2.1
 have U:=a3 v λ_=>by rw[A,if_pos rfl];rfl
 obtain⟨c,r,N,O,P,Q⟩:=dD.DZ G (bs:=(l5 n S v).g v) L λb o=>o
 have V:=N v U;have ag:(j5 (h7 S v) v).M+1=S.M:=by
  show 2*iu S.am+(S.work.erase v).length+1=2*iu S.am+S.work.length;rw[List.length_erase_of_mem E];have:=List.length_pos_of_mem E;omega
 have ah:=p.m;have ai:=r.m;refine⟨⟨c.dc,c.aW,c.fC,c.ls,c.lw,c.dY,c.jI,c.iJ,c.cn,c.sound,c.gs,c.qs,c.sle,c.wt,c.kZ,?_⟩,⟨λu s k=>r.a u s (p.a u s k),λu b o=>r.g u b (p.g u b o),λu=>(r.q u).trans (p.q u)⟩,?_⟩
 ·intro u _ hw;by_cases e:u=v
  ·subst e;refine⟨λb o s k=> ?_,V hw⟩;have R:b∈(l5 n S u).g u:=by
    have:(jG u ((l5 n S u).g u) (nH n u (ir S u) (j5 (h7 S u) u))).g u=(l5 n S u).g u:=congrArg (λz=>List.getD z u []) P;rw[<-this];exact o
   refine Q b R s ?_;rw[<-O];exact k
  ·exact c.fe u e hw
 ·show(jG v ((l5 n S v).g v) (nH n v (ir S v) (j5 (h7 S v) v))).M<S.M;omega
end
end
section
open Go.bo
open Go.bo
open Go.bo
section
variable {n m:Nat}{l:List bz}{S:bI}
structure e9(n m:Nat)(l:List bz)(S:bI):Prop where
 i:iM n m l S
 z:∀v,S.s v=0
structure hW(S c:bI):Prop where
 a:∀v s,(S.a v).testBit s=true->(c.a v).testBit s=true
 g:∀v,∀b∈S.g v,b∈c.g v
 q:∀v,∀q∈S.q v,q∈c.q v
def hb.b{S c:bI}(h:hb S c):hW S c:=⟨h.a,h.g,λv q a8=>by rw[h.q];exact a8⟩
def ps.b{S c:bI}(h:ps S c):hW S c:=⟨h.a,h.g,λv q a8=>by rw[h.q];exact a8⟩
def hW.refl(S:bI):hW S S:=⟨λ_ _ h=>h,λ_ _ h=>h,λ_ _ h=>h⟩
def hW.trans{S c d:bI}(h:hW S c)(k:hW c d):hW S d:=⟨λv s x=>k.a v s (h.a v s x),λv b x=>k.g v b (h.g v b x),λv q x=>k.q v q (h.q v q x)⟩
def lL(n:Nat)(S:bI):bz->Prop
 | .base a b=>(S.a a).testBit b=C
 | .copy a b=>b=a\/a∈S.g b
 | .load a b f=>(⟨C,a,f⟩:Ask)∈S.q b
 | .store a b f=>(⟨Z,b,f⟩:Ask)∈S.q a
 | .same a b=>∀f,f<8->(c5 n a f=c5 n b f\/c5 n b f∈S.g (c5 n a f))/\(c5 n b f=c5 n a f\/c5 n a f∈S.g (c5 n b f))
def lL.sL{S d:bI}{c:bz}(h:lL n S c)(g:hW S d):lL n d c:=by
 cases c with
 |base a b=>exact g.a _ _ h
 |copy a b=>exact Or.imp id (g.g _ _) h
 |load a b f=>exact g.q _ _ h
 |store a b f=>exact g.q _ _ h
 |same a b=>exactλf aN=>⟨(h f aN).1.imp id (g.g _ _),(h f aN).2.imp id (g.g _ _)⟩
def e9.start(n m:Nat)(l:List bz):e9 n m l (eX (n+m*8)):=by
 have e:∀v,(eX (n+m*8)).a v=0:=λv=>iW
 have f:∀v,(eX (n+m*8)).g v=[]:=λv=>iW
 have a8:∀v,(eX (n+m*8)).q v=[]:=λv=>iW
 have d:∀v,(eX (n+m*8)).s v=0:=λv=>iW
 have hw:∀v,(eX (n+m*8)).w v=false:=λv=>iW
 refine⟨⟨by simp[eX],by simp[eX],by simp[eX],by simp[eX],by simp[eX],?_,?_,?_,List.nodup_nil,?_,?_,?_,?_,?_,?_,?_⟩,d⟩
 ·intro v;rw[e];decide
 ·intro v b c;rw[f]at c;simp at c
 ·intro v i;simp[eX]at i
 ·intro v s h;rw[e]at h;simp at h
 ·intro a b c;rw[f]at c;simp at c
 ·intro v q h;rw[a8]at h;simp at h
 ·intro v s h;rw[d]at h;simp at h
 ·intro v;rw[hw];simp[eX]
 ·intro v t h;rw[d]at h;simp at h
 ·intro v _ _;rw[f,d,e];exact⟨λb c=>by simp at c,rfl⟩
def e9.of(h:e9 n m l S){a:bI}(i:iM n m l a)(g:hb S a):e9 n m l a:=⟨i,λv=>by rw[g.s,h.z]⟩
def e9.n0(h:e9 n m l S){a b:Nat}(e:a<n+m*8)(f:b<n+m*8)(j:∀s,df n l a s->df n l b s):e9 n m l (gp S a b)/\hW S (gp S a b)/\(a=b\/b∈(gp S a b).g a):=by
 obtain⟨d,c,a3,_⟩:=h.i.n0 e f j;exact⟨h.of d c,c.b,a3⟩
def e9.same{a b:Nat}(aA:bz.same a b∈l)(v:a<m)(w:b<m):∀{fs:List Nat} {S:bI},e9 n m l S->(∀f∈fs,f<8)->e9 n m l (j4 n S a b fs)/\hW S (j4 n S a b fs)/\∀f∈fs,(c5 n a f=c5 n b f\/c5 n b f∈(j4 n S a b fs).g (c5 n a f))/\(c5 n b f=c5 n a f\/c5 n a f∈(j4 n S a b fs).g (c5 n b f))
 |[],S,h,_=>⟨h,.refl S,λf aN=>by simp at aN⟩
 |f::fs,S,h,aN=>by
  have j:=aN f (by simp);obtain⟨k,o,a3⟩:=h.n0 (a:=c5 n a f) (b:=c5 n b f) (by unfold c5;omega) (by unfold c5;omega) λs e=> .same aA j e
  obtain⟨p,i,r⟩:=k.n0 (a:=c5 n b f) (b:=c5 n a f) (by unfold c5;omega) (by unfold c5;omega) λs e=> .kM aA j e
  obtain⟨t,d,u⟩:=e9.same aA v w (fs:=fs) p λg c=>aN g (by simp[c])
  refine⟨t,(o.trans i).trans d,λg c=> ?_⟩;rcases List.mem_cons.1 c with rfl|c
  ·exact⟨a3.imp id λq=>d.g _ _ (i.g _ _ q),r.imp id (d.g _ _)⟩
  ·exact u g c
def ZK{b s:Nat}(h:(1<<<b).testBit s=C):s=b:=by
 rw[Nat.one_shiftLeft,Nat.testBit_two_pow]at h;exact(of_decide_eq_true h).symm
def e9.ask(h:e9 n m l S){v:Nat}{q:Ask}(k:v<n+m*8)(a8:(q.eO=C/\bz.load q.o v q.f∈l)\/(q.eO=Z/\bz.store v q.o q.f∈l)):e9 n m l (iQ S v q)/\hW S (iQ S v q)/\q∈(iQ S v q).q v:=by
 have g:v<S.asks.length:=by rw[h.i.fC];exact k
 have c:∀u,(iQ S v q).q u=if u=v then S.q v++[q]else S.q u:=λu=>jH g
 refine⟨⟨⟨h.i.dc,h.i.aW,by simpa [iQ]using h.i.fC,h.i.ls,h.i.lw,h.i.dY,h.i.jI,h.i.iJ,h.i.cn,h.i.sound,h.i.gs,?_,h.i.sle,h.i.wt,?_,h.i.fe⟩,h.z⟩,⟨λ_ _ a=>a,λ_ _ a=>a,?_⟩,?_⟩
 ·intro u p b;rw[c]at b;split at b
  ·rename_i e;subst e;rcases List.mem_append.1 b with b|b
   ·exact h.i.qs u p b
   ·simp only[List.mem_singleton]at b;subst b;exact a8
  ·exact h.i.qs u p b
 ·intro u t j;have:S.s u=0:=h.z u;have d:(S.s u).testBit t=true:=j;rw[this]at d;simp at d
 ·intro u p b;rw[c];split
  ·rename_i e;subst e;exact List.mem_append.2 (.inl b)
  ·exact b
 ·rw[c,if_pos rfl];simp
def e9.begin(hm:m<=60)(k:e0 n m l)(h:e9 n m l S){c:bz}(aA:c∈l):e9 n m l (pG n S c)/\hW S (pG n S c)/\lL n (pG n S c) c:=by
 have hw:=k c aA;cases c with
 |base a b=>
  obtain⟨d,e⟩:=hw;have aD:(1<<<b:Nat)<2^64:=by rw[Nat.one_shiftLeft];exact Nat.pow_lt_pow_right (by omega) (by omega)
  obtain⟨o,j,p,_⟩:=h.i.eS (v:=a) (x:=1<<<b) (by omega) aD λs g=>by rw[ZK g];exact .base aA
  exact⟨h.of o j,j.b,p b (by rw[Nat.one_shiftLeft,Nat.testBit_two_pow_self])⟩
 |copy a b=>
  obtain⟨d,e⟩:=hw;exact h.n0 (by omega) (by omega) λs g=> .copy aA g
 |load a b f=>
  obtain⟨d,e,_⟩:=hw;exact h.ask (by omega) (.inl ⟨rfl,aA⟩)
 |store a b f=>
  obtain⟨d,e,_⟩:=hw;exact h.ask (by omega) (.inr ⟨rfl,aA⟩)
 |same a b=>
  obtain⟨d,e⟩:=hw;obtain⟨s1,s2,q⟩:=e9.same aA d e (fs:=List.range 8) h λf aN=>by simpa using aN
  exact⟨s1,s2,λf aN=>q f (by simpa using aN)⟩
def e9.CK(hm:m<=60)(e:e0 n m l):∀{cs:List bz} {S:bI},e9 n m l S->(∀c∈cs,c∈l)->e9 n m l (pH n cs S)/\hW S (pH n cs S)/\∀c∈cs,lL n (pH n cs S) c
 |[],S,h,_=>⟨h,.refl S,λc aA=>by simp at aA⟩
 |c::cs,S,h,aA=>by
  obtain⟨f,g,a3⟩:=h.begin hm e (aA c (by simp));obtain⟨i,b,j⟩:=e9.CK hm e (cs:=cs) f λd a=>aA d (by simp[a])
  refine⟨i,g.trans b,λd a=> ?_⟩;rcases List.mem_cons.1 a with rfl|a
  ·exact a3.sL b
  ·exact j d a
def P1(S:bI)(v:Nat):ps S (gR S v):=by
 unfold gR;split<;>exact⟨λ_ _ h=>h,λ_ _ h=>h,λ_=>rfl⟩
def dD.final(u:e0 n m l)(h:iM n m l S)(g:∀c∈l,lL n S c)(hw:S.work=[]):∀v s,(S.a v).testBit s=C↔df n l v s:=by
 have o:∀v,S.w v=false:=by
  intro v;cases p:S.w v with
  |false=>rfl
  |true=>rw[h.wt,hw]at p;simp at p
 have i:=λv=>(h.fe v (λx=>x) (o v)).1
 have r:=λv=>(h.fe v (λx=>x) (o v)).2
 have k:∀v t,(S.a v).testBit t=C->∀q∈S.q v,j8 n t S q:=λv t j q a8=>h.kZ v t (by rw[r];exact j) (λx=>x) q a8
 intro v s;refine⟨h.sound v s,df.least (R:=λv s=>(S.a v).testBit s=C) ⟨?_,?_,?_,?_,?_,?_⟩⟩
 ·intro a b aA;exact g _ aA
 ·intro a b s aA d;rcases g _ aA with e|e
  ·subst e;exact d
  ·exact i b a e s d
 ·intro a b f t s aA j d;have:=k b t j _ (g _ aA);unfold j8 at this;simp only[if_true]at this;rcases this with e|e
  ·rw[e];exact d
  ·exact i _ _ e s d
 ·intro a b f t s aA j d;have:=k a t j _ (g _ aA);unfold j8 at this;simp only[Bool.false_eq_true,if_false]at this;rcases this with e|e
  ·show(S.a (c5 n t f)).testBit s=C;rw[e];exact d
  ·exact i _ _ e s d
 ·intro a b f s aA aN d;rcases(g _ aA f aN).1 with e|e
  ·show(S.a (c5 n b f)).testBit s=C;rw[<-e];exact d
  ·exact i _ _ e s d
 ·intro a b f s aA aN d;rcases(g _ aA f aN).2 with e|e
  ·show(S.a (c5 n a f)).testBit s=C;rw[<-e];exact d
  ·exact i _ _ e s d
open Classical in
def dD.list(b:e0 n m l)(hm:m<=60)(h:∀v s,(S.a v).testBit s=C↔df n l v s)(v:Nat):bits (S.a v)=c_ m (df n l v):=by
 refine GF (List.Pairwise.filter _ List.pairwise_lt_range) (Ge _ _) λs=> ?_
 rw[gI];unfold bits;rw[List.mem_filter,List.mem_range];constructor
 ·rintro⟨_,ae⟩;have:=(h v s).1 ae;exact⟨this.site b,this⟩
 ·rintro⟨ae,ah⟩;exact⟨by omega,(h v s).2 ah⟩
end
end
end Go.bp
namespace Go.Proofs.YtmhhnnklfcbgfaaGreat
open Go.bo
section
open Go.bp
def wrap_u64{x:Nat}(h:x<2^64):IntKind.u64.wrap (x:Int)=(x:Int):=by
 simp only[IntKind.wrap,IntKind.bits,IntKind.signed,Bool.false_and];have ae:(x:Int)%2^64=(x:Int):=Int.emod_eq_of_lt ai (by exact_mod_cast h);rw[ae];rfl
def s3(x:Nat):BitVec.ofInt 64 (x:Int)=BitVec.ofNat 64 x:=by
 apply BitVec.eq_of_toNat_eq;simp
def AA(t:Nat)(z:Bool){x y:Nat}(aD:x<2^64)(a:y<2^64):ar P .or t z (J .u64 x) (J .u64 y)=D (J .u64 ((x|||y:Nat):Int)):=by
 have e:(BitVec.ofInt 64 (x:Int)|||BitVec.ofInt 64 (y:Int)).toNat=x|||y:=by
  rw[s3,s3,BitVec.toNat_or,BitVec.toNat_ofNat,BitVec.toNat_ofNat,Nat.mod_eq_of_lt aD,Nat.mod_eq_of_lt a]
 show D (aa.int .u64 (IntKind.u64.wrap (((BitVec.ofInt 64 (x:Int)|||BitVec.ofInt 64 (y:Int)).toNat:Nat):Int)))=_;rw[e,wrap_u64 (Nat.or_lt_two_pow aD a)]
def Ce(t:Nat)(z:Bool){x:Nat}(aD:x<2^64):ar P .and t z (J .u64 x) (J .u64 1)=D (J .u64 ((x%2:Nat):Int)):=by
 have e:(BitVec.ofInt 64 (x:Int)&&&BitVec.ofInt 64 (1:Int)).toNat=x%2:=by
  rw[s3,BitVec.toNat_and,BitVec.toNat_ofNat,Nat.mod_eq_of_lt aD];show x&&&1=_;rw[Nat.and_one_is_mod]
 show D (aa.int .u64 (IntKind.u64.wrap (((BitVec.ofInt 64 (x:Int)&&&BitVec.ofInt 64 (1:Int)).toNat:Nat):Int)))=_;rw[e,wrap_u64 ai]
def Ip(t:Nat)(z:Bool)(x:Nat):ar P .shr t z (J .u64 x) (J .u64 1)=D (J .u64 ((x/2:Nat):Int)):=by
 show D (aa.int .u64 ((x:Int).fdiv (2^1)))=_;rw[Int.fdiv_eq_ediv_of_nonneg _ ai];simp
def ZL(t:Nat)(z:Bool){b:Nat}(a:b<64):ar P .shl t z (J .u64 1) (J X b)=D (J .u64 ((1<<<b:Nat):Int)):=by
 have ae:¬((b:Int)<0):=ai;show(if(b:Int)<0 then I else D (aa.int .u64 (IntKind.u64.wrap (1*2^(min ((b:Int).toNat) 64)))))=_;rw[if_neg ae,Int.toNat_natCast,Nat.min_eq_left ai];have ah:(1*2^b:Int)=((1<<<b:Nat):Int):=by rw[Nat.shiftLeft_eq];simp
 rw[ah,wrap_u64];rw[Nat.shiftLeft_eq,Nat.one_mul];exact Nat.pow_lt_pow_right ai a
def nL(x y:Nat):Nat:=(BitVec.ofNat 64 x&&& ~~~BitVec.ofNat 64 y).toNat
def yt(x y:Nat):nL x y<2^64:=(BitVec.ofNat 64 x&&& ~~~BitVec.ofNat 64 y).isLt
def Kr(t:Nat)(z:Bool)(x y:Nat):ar P .andNot t z (J .u64 x) (J .u64 y)=D (J .u64 ((nL x y:Nat):Int)):=by
 show D (aa.int .u64 (IntKind.u64.wrap (((BitVec.ofInt 64 (x:Int)&&& ~~~BitVec.ofInt 64 (y:Int)).toNat:Nat):Int)))=_;rw[s3,s3];exact congrArg (λz=>D (aa.int .u64 z)) (wrap_u64 (yt x y))
def CP(x y i:Nat)(a:i<64):(nL x y).testBit i=(x.testBit i&& !y.testBit i):=by
 unfold nL;rw[BitVec.testBit_toNat,BitVec.getLsbD_and,BitVec.getLsbD_not,BitVec.getLsbD_ofNat,BitVec.getLsbD_ofNat];simp[a]
def La(x y:Nat):Go.bp.bits (nL x y)=(List.range 64).filter λt=>x.testBit t&& !y.testBit t:=by
 unfold Go.bp.bits;refine List.filter_congr λi a=> ?_
 rw[CP x y i (by simpa using a)]
def SO{x y:Nat}(aD:x<2^64)(b:y<2^64):y|||nL x y=y|||x:=by
 apply Nat.eq_of_testBit_eq;intro i;rw[Nat.testBit_or,Nat.testBit_or];by_cases a:i<64
 ·rw[CP x y i a];cases y.testBit i<;>cases x.testBit i<;>rfl
 ·have ae:∀{z:Nat},z<2^64->z.testBit i=false:=λh=>Nat.testBit_lt_two_pow (Nat.lt_of_lt_of_le h (Nat.pow_le_pow_right ai ai))
  rw[ae aD,ae (yt x y)]
section
variable {H:ad}{ok:Nat->Prop}
def E6{x:Nat}(aD:x<2^64){B:Nat}{N:Nat}:∀(j k m:Nat) (H:ad) (v:aa),k+j=64->j<m->bG bu B bH H (bC ((List.range k).filter (x.testBit ·))) v->B<=H.next->
  W (kB (aC P ax) N m (J .u64 ((x>>>k:Nat):Int)) v (J X k) H) λr H'=>bG bu B bH H' (bC (Go.bp.bits x)) r/\dt B H H'
 |_,_,0,_,_,_,hm,_,_=>ai
 |0,k,m+1,H,v,A,_,az,g=>by
  have e:k=64:=ai;subst e;have z:x>>>64=0:=by rw[Nat.shiftRight_eq_div_pow,Nat.div_eq_of_lt aD]
  have b:((((0:Nat):Int)) != 0)=false:=rfl;rw[z];simp-implicitDefEqProofs(disch:=try exact al)only[kB,oR,mO,aq,aG,b];exact aK.2 ⟨az,.refl _ _⟩
 |j+1,k,m+1,H,v,A,hm,az,g=>by
  have o:x>>>k<2^64:=Nat.lt_of_le_of_lt (by rw[Nat.shiftRight_eq_div_pow];exact Nat.div_le_self _ _) aD;have aY:=c3 (show k<=1000000000 by omega);have s:x>>>k/2=x>>>(k+1):=by rw[Nat.shiftRight_succ]
  have p:(List.range (k+1)).filter (x.testBit ·)=(List.range k).filter (x.testBit ·)++(if x.testBit k then[k]else[]):=by
   rw[List.range_succ,List.filter_append];cases h:x.testBit k<;>simp[h]
  have d:x.testBit k=decide (x>>>k%2=1):=by
   rw[Nat.testBit_eq_decide_div_mod_eq,Nat.shiftRight_eq_div_pow]
  have on:=E6 aD (B:=B) (N:=N) j (k+1) m;by_cases l:x>>>k=0
  ·have b:((((x>>>k:Nat):Int)) != 0)=false:=by rw[l];rfl
   simp-implicitDefEqProofs(disch:=try exact al)only[kB,oR,mO,aq,aG,b];have t:Go.bp.bits x=(List.range k).filter (x.testBit ·):=by
    unfold Go.bp.bits;have:List.range 64=List.range k++(List.range (64-k)).map (k+ ·):=by rw[<-List.range_add];congr 1;omega
    have nil:((List.range (64-k)).map (k+ ·)).filter (x.testBit ·)=[]:=by
     rw[List.filter_eq_nil_iff];intro i n;simp only[List.mem_map,List.mem_range]at n;obtain⟨q,a8,rfl⟩:=n;have:(x>>>k).testBit q=false:=by rw[l];simp
     rw[Nat.testBit_shiftRight]at this;simp[this]
    rw[this,List.filter_append,nil,List.append_nil]
   rw[t];exact aK.2 ⟨az,.refl _ _⟩
  ·have b:((((x>>>k:Nat):Int)) != 0)=true:=bne_iff_ne.2 λh=>l (by exact_mod_cast h)
   cases c:x.testBit k with
   |false=>
    have f:((((x>>>k%2:Nat):Int))==1)=false:=by
     rw[c]at d;have ae:=of_decide_eq_false d.symm;exact beq_eq_false_iff_ne.2 λh=>ae (by exact_mod_cast h)
    rw[p,c]at on;simp-implicitDefEqProofs(disch:=try exact al)only[kB,oR,oS,aq,aG,b,Ce _ _ o,f,Ip,aY,s];exact on H v ai ai (by simpa using az) g
   |true=>
    have f:((((x>>>k%2:Nat):Int))==1)=true:=by
     rw[c]at d;have ae:=of_decide_eq_true d.symm;rw[ae];rfl
    rw[p,c]at on;have hlen:(bC ((List.range k).filter (x.testBit ·))).length<=999999999:=by
     have:=List.length_filter_le (x.testBit ·) (List.range k);simp[bC]at this ⊢;omega
    obtain⟨L,H',E,G,K,O,Q⟩:=az.wj (a:=(k:Int)) g hlen;have hle:(H.push (.row Z 1 [[J X (k:Int)]])).next<=H'.next:=by simp;omega
    simp-implicitDefEqProofs(disch:=try exact al)only[kB,oR,aq,aG,b,Ce _ _ o,f,eW,E];simp-implicitDefEqProofs(disch:=try exact al)only[oS,aq,aG,Ip,aY,s];refine(on H' L ai ai (by simpa [bC]using G) ai).mono ?_;rintro r M ⟨u,w⟩;exact⟨u,K.trans w⟩
def Ad{x:Nat}(aD:x<2^64):W (aC P ax 183 [J .u64 x] H) λr H'=>bG bu H.next bH H' (bC (Go.bp.bits x)) r/\ay H H':=by
 refine bZ (λ_=>T9 65) ?_;have:=E6 aD (B:=H.next) (N:=65) 64 0 65 H .aB ai ai (by simpa [bC]using bG.nil bu H.next bH H) (b4 _);rw[Nat.shiftRight_zero]at this;simp-implicitDefEqProofs(disch:=try exact al)only[qK];refine this.mono ?_;rintro r H' ⟨a,b⟩;exact⟨a,dt.aI b⟩
def yv(n m:Int):W (aC P ax 176 [J X n,J X m] H) λr H'=>r= y (decide (0<=n/\n<m))/\H'=H:=by
 refine bZ (λ_=>T0 0) ?_;by_cases a:0<=n
 ·simp-implicitDefEqProofs(disch:=try exact al)only[oN,aq,aO,aG,a,decide_true];exact aK.2 ⟨rfl,rfl⟩
 ·simp-implicitDefEqProofs(disch:=try exact al)only[oN,aq,aG,a,decide_false,false_and];exact aK.2 ⟨rfl,rfl⟩
end
end
section
open Go.bp
section
variable {H:ad}{ok:Nat->Prop}
def jl{n m:Nat}(h:n<m):W (aC P ax 176 [J X n,J X m] H) λr H'=>r= y C/\H'=H:=by
 refine(yv _ _).mono ?_;rintro r H' ⟨rfl,rfl⟩;exact⟨by rw[decide_eq_true];omega,rfl⟩
def jD(c:bz)(l:Nat):b0 l (.agg (cT c))=D (.ptr l 0 0,.row Z 4 [cT c]):=by
 have h:=nV l (cT c) (by cases c<;>rfl);rw[h];cases c<;>rfl
def gk{c:bz}{L:Nat}{k a b f:Int}(h:H.get L=D (.row Z 4 [cT c]))(aA:cT c=[J X k,J X a,J X b,J X f]):aj P H 3 (.ptr L 0 0)=D (J X k)/\aj P H 3 (.ptr L 0 1)=D (J X a)/\aj P H 3 (.ptr L 0 2)=D (J X b)/\aj P H 3 (.ptr L 0 3)=D (J X f):=by
 rw[aA]at h;simp-implicitDefEqProofs(disch:=try exact al)only[bM,h]
def EZ{c:bz}{L:Nat}(h:H.get L=D (.row Z 4 [cT c])):aj P H 56 (.ptr L 0 0)=D (.agg (cT c)):=by
 rw[fY (n:=4) (i:=0) (c:=0) ag ag h rfl (by exact b4 4)];cases c<;>rfl
def ZW{n m:Nat}{c:bz}(hw:c.wf n m):W (aC P ax 179 [.agg (cT c),J X n,J X m,J X 8] H) λr H'=>r= y C/\ay H H':=by
 refine bZ (λ_=>T5 0) ?_;have e:=ay.push H (.row Z 4 [cT c]);have d:=ad.bq H (.row Z 4 [cT c]);cases c with
 |base a b=>
  have l:=gk d rfl;simp-implicitDefEqProofs(disch:=try exact al)only[kz,aq,aO,aG,aM,jD,l,Int.reduceBEq];refine fu (jl hw.1) ?_;simp-implicitDefEqProofs(disch:=try exact al)only[aq,aO,aM,l];refine jv (jl hw.2) ?_;simp-implicitDefEqProofs(disch:=try exact al)only[aq];exact aK.2 ⟨rfl,e⟩
 |copy a b=>
  have l:=gk d rfl;simp-implicitDefEqProofs(disch:=try exact al)only[kz,aq,aO,aG,aM,jD,l,Int.reduceBEq];refine fu (jl hw.1) ?_;simp-implicitDefEqProofs(disch:=try exact al)only[aq,aO,aM,l];refine jv (jl hw.2) ?_;simp-implicitDefEqProofs(disch:=try exact al)only[aq];exact aK.2 ⟨rfl,e⟩
 |load a b f=>
  have l:=gk d rfl;simp-implicitDefEqProofs(disch:=try exact al)only[kz,mK,aq,aO,aG,aM,jD,l,Int.reduceBEq];refine fu (jl hw.1) ?_;simp-implicitDefEqProofs(disch:=try exact al)only[aq,aO,aM,l];refine jv (jl hw.2.1) ?_;simp-implicitDefEqProofs(disch:=try exact al)only[aq,aO,aM,l];refine jv (jl (m:=8) hw.2.2) ?_;simp-implicitDefEqProofs(disch:=try exact al)only[aq];exact aK.2 ⟨rfl,e⟩
 |store a b f=>
  have l:=gk d rfl;simp-implicitDefEqProofs(disch:=try exact al)only[kz,mK,aq,aO,aG,aM,jD,l,Int.reduceBEq];refine fu (jl hw.1) ?_;simp-implicitDefEqProofs(disch:=try exact al)only[aq,aO,aM,l];refine jv (jl hw.2.1) ?_;simp-implicitDefEqProofs(disch:=try exact al)only[aq,aO,aM,l];refine jv (jl (m:=8) hw.2.2) ?_;simp-implicitDefEqProofs(disch:=try exact al)only[aq];exact aK.2 ⟨rfl,e⟩
 |same a b=>
  have l:=gk d rfl;simp-implicitDefEqProofs(disch:=try exact al)only[kz,mK,aq,aO,aG,aM,jD,l,Int.reduceBEq];refine fu (jl hw.1) ?_;simp-implicitDefEqProofs(disch:=try exact al)only[aq,aO,aM,l];refine jv (jl hw.2) ?_;simp-implicitDefEqProofs(disch:=try exact al)only[aq];exact aK.2 ⟨rfl,e⟩
structure kT(H:ad)(A B zC n m w:Nat):Prop where
 a:H.get A=some (.row false 1 [[.int .i64 (n:Nat)]])
 b:H.get B=some (.row false 1 [[.int .i64 (m:Nat)]])
 c:H.get zC=some (.row false 1 [[.int .i64 (w:Nat)]])
def kT.aI{H H':ad}{A B zC n m w:Nat}(h:kT H A B zC n m w)(p:ay H H'):kT H' A B zC n m w:=⟨p.get h.a,p.get h.b,p.get h.c⟩
def g1{L:Nat}{n:Int}(h:H.get L=D (.row Z 1 [[J X n]])):aj P H 3 (.ptr L 0 0)=D (J X n):=by simp-implicitDefEqProofs(disch:=try exact al)only[bM,h]
def S1{A B zC n m:Nat}(k:kT H A B zC n m 8){c:bz}(hw:c.wf n m):W (aC P ax 178 [.agg (cT c),.ptr A 0 0,.ptr B 0 0,.ptr zC 0 0] H) λr H'=>r= y Z/\ay H H':=by
 refine bZ (λ_=>T4 0) ?_;have d:=ay.push H (.row Z 4 [cT c]);have e:=ad.bq H (.row Z 4 [cT c]);have b8:=k.aI d;simp-implicitDefEqProofs(disch:=try exact al)only[qH,aq,jD,EZ e,g1 b8.a,g1 b8.b,g1 b8.c];refine bk (ZW hw) ?_;rintro _ K ⟨rfl,p⟩;refine⟨p.1,?_⟩;simp-implicitDefEqProofs(disch:=try exact al)only[aq,Bool.not_true];exact aK.2 ⟨rfl,d.trans p⟩
def aZ.zg{l:List bz}{v:aa}(h:aZ c6 H ok l v){j:Int}{c:bz}(a:0<=j)(b:l[j.toNat]? =D c):∃p,a6 P 53 v (J X j)=D p/\∀H',ay H H'->aj P H' 56 p=D (.agg (cT c)):=by
 obtain⟨p,cs,d,e,rfl⟩:=h.vy (K:=c6) g4 IM a b;exact⟨p,d,e⟩
def Ey{l:List bz}{v:aa}{A B zC n m:Nat}(hw:e0 n m l)(g:l.length<=1000000000){N:Nat}:∀(j k q:Nat) (H:ad),k+j=l.length->j<q->aZ c6 H ok l v->kT H A B zC n m 8->
  W (mX (aC P ax) N q v (.func (.func 178) [] [.ptr A 0 0,.ptr B 0 0,.ptr zC 0 0]) (J X l.length) (J X k) H) λr H'=>r= J X (-1)/\ay H H'
 |_,_,0,_,_,hm,_,_=>ai
 |0,k,q+1,H,h,_,az,aA=>by
  have b:¬(k:Int)<(l.length:Int):=ai;simp-implicitDefEqProofs(disch:=try exact al)only[mX,uE,qY,aq,aG,b,decide_false];exact aK.2 ⟨rfl,ay.refl _⟩
 |j+1,k,q+1,H,h,hm,az,aA=>by
  have b:(k:Int)<(l.length:Int):=ai;have d:k<l.length:=ai;obtain⟨p,o,s⟩:=az.zg (j:=(k:Int)) (c:=l[k]) ai (by simp[d]);have i:=hw _ (List.getElem_mem d);have on:=Ey (A:=A) (B:=B) (zC:=zC) (v:=v) hw g (N:=N) j (k+1) q;simp-implicitDefEqProofs(disch:=try exact al)only[mX,uE,aq,aO,aG,b,decide_true,o,s _ (ay.refl _),se,sx];refine bk (S1 aA i) ?_;rintro _ K ⟨rfl,a⟩;refine⟨a.1,?_⟩;simp-implicitDefEqProofs(disch:=try exact al)only[aq,aG,c3 (show k<=1000000000 by omega)];refine(on K ai ai (az.aI a) (aA.aI a)).mono ?_;rintro r t ⟨e,f⟩;exact⟨e,a.trans f⟩
def LC{l:List bz}{v:aa}{A B zC n m:Nat}(hw:e0 n m l)(a:l.length<=1000000000)(az:aZ c6 H ok l v)(aA:kT H A B zC n m 8):
  W (aC P ax 177 [v,.func (.func 178) [] [.ptr A 0 0,.ptr B 0 0,.ptr zC 0 0]] H) λr H'=>r= y Z/\ay H H':=by
 refine bZ (λ_=>T3 0) ?_;have key:W (aC P ax 219 [v,.func (.func 178) [] [.ptr A 0 0,.ptr B 0 0,.ptr zC 0 0]] H) λr H'=>r= J X (-1)/\ay H H':=by
  refine bZ (λ_=>Uj (l.length+1)) ?_;simp-implicitDefEqProofs(disch:=try exact al)only[qX,bf,az.len g4];exact Ey hw a l.length 0 (l.length+1) H ai ai az aA
 simp-implicitDefEqProofs(disch:=try exact al)only[qG,aq];refine bk key ?_;rintro _ K ⟨rfl,p⟩;refine⟨p.1,?_⟩;simp-implicitDefEqProofs(disch:=try exact al)only[aq,aG];exact aK.2 ⟨rfl,p⟩
end
end
section
open Go.bp
def il(l:List Int):List (List aa):=l.map λn=>[J X n]
def vC{l:List Int}{i:Nat}{n:Int}(h:l[i]? =D n):(il l)[i]? =D [J X n]:=by simp[il,h]
def lT(l:List Int):(il l).length=l.length:=by simp[il]
def KI(l:List Int)(i:Nat)(n:Int):(il l).set i [J X n]=il (l.set i n):=by simp[il,List.map_set]
def Fj(H:ad)(l i c:Nat)(a:List aa):hN P H (.iface 288 (.ptr l i c)) "Len" a=(aj P H 246 (.ptr l i c)).bind λu=>D (223,u::a):=by
 simp only[hN];have h:jz P H (.iface 288 (.ptr l i c)) "Len" =(aj P H 246 (.ptr l i c)).bind λu=>D (223,u):=ag
 rw[h];cases aj P H 246 (.ptr l i c)<;>rfl
def Aj(H:ad)(l i c:Nat)(a:List aa):hN P H (.iface 288 (.ptr l i c)) "Less" a=(aj P H 246 (.ptr l i c)).bind λu=>D (281,u::a):=by
 simp only[hN];have h:jz P H (.iface 288 (.ptr l i c)) "Less" =(aj P H 246 (.ptr l i c)).bind λu=>D (281,u):=ag
 rw[h];cases aj P H 246 (.ptr l i c)<;>rfl
def Ak(H:ad)(l i c:Nat)(a:List aa):hN P H (.iface 288 (.ptr l i c)) "Swap" a=(aj P H 246 (.ptr l i c)).bind λu=>D (282,u::a):=by
 simp only[hN];have h:jz P H (.iface 288 (.ptr l i c)) "Swap" =(aj P H 246 (.ptr l i c)).bind λu=>D (282,u):=ag
 rw[h];cases aj P H 246 (.ptr l i c)<;>rfl
def Qb(H:ad)(l i c:Nat)(a:List aa):hN P H (.iface 288 (.ptr l i c)) "Push" a=D (284,.ptr l i c::a):=by
 simp only[hN];have h:jz P H (.iface 288 (.ptr l i c)) "Push" =D (284,.ptr l i c):=ag;rw[h];rfl
def Qa(H:ad)(l i c:Nat)(a:List aa):hN P H (.iface 288 (.ptr l i c)) "Pop" a=D (283,.ptr l i c::a):=by
 simp only[hN];have h:jz P H (.iface 288 (.ptr l i c)) "Pop" =D (283,.ptr l i c):=ag;rw[h];rfl
def jV:eC 246 3 1:=⟨ag,ag,⟨8,ag,b_⟩,⟨J X 0,ag,rfl,rfl⟩,b_⟩
section
variable {H:ad}
structure gm(H:ad)(M L:Nat)(cap:Option Nat)(aY:List Int)(rest:List (List aa)):Prop where
 row:H.get L=some (.row false 1 (il aY++rest))
 eO:aj P H 246 (.ptr M 0 7)=some (.aJ L 0 aY.length 1 cap)
 ne:M≠L
 keep:∀b,aj P (H.set L b) 246 (.ptr M 0 7)=some (.aJ L 0 aY.length 1 cap)
def gm.lt{M L:Nat}{cap:Option Nat}{aY:List Int}{rest:List (List aa)}(h:gm H M L cap aY rest):L<H.next:=ad.b6 h.row
def gm.set{M L:Nat}{cap:Option Nat}{aY wk':List Int}{rest:List (List aa)}(h:gm H M L cap aY rest)(az:wk'.length=aY.length):gm (H.set L (.row Z 1 (il wk'++rest))) M L cap wk' rest:=
 ⟨ad.dA h.lt,by rw[az];exact h.keep _,h.ne,λb=>by rw[ad.set_set,az];exact h.keep _⟩
def gm.at_{M L:Nat}{cap:Option Nat}{aY:List Int}{rest:List (List aa)}(h:gm H M L cap aY rest){j:Nat}(a:j<aY.length):a6 P 246 (.aJ L 0 aY.length 1 cap) (J X j)=D (.ptr L j 0)/\aj P H 3 (.ptr L j 0)=D (J X aY[j]):=by
 refine⟨?_,?_⟩
 ·have:=wo (c:=cap) (l:=L) (i:=0) (n:=aY.length) jV (j:=(j:Int)) ai ai;simpa using this
 ·rw[fB (i:=j) (c:=0) yw h.row (by rw[List.getElem?_append_left (by rw[lT];exact a)];exact vC (n:=aY[j]) (by simp[a]))];rfl
def Ab{M L:Nat}{cap:Option Nat}{aY:List Int}{rest:List (List aa)}(h:gm H M L cap aY rest){i j:Nat}(a:i<aY.length)(b:j<aY.length):W (aC P ax 281 [.aJ L 0 aY.length 1 cap,J X i,J X j] H) λr H'=>r= y (decide (aY[i]<aY[j]))/\H'=H:=by
 refine bZ (λ_=>UL 0) ?_;simp-implicitDefEqProofs(disch:=try exact al)only[rz,aq,aG,h.at_ a,h.at_ b];exact aK.2 ⟨rfl,rfl⟩
def r7(l:List Int)(i j:Nat)(a:i<l.length)(b:j<l.length):List Int:=(l.set i l[j]).set j l[i]
def pg(l:List Int)(i j:Nat)(a:i<l.length)(b:j<l.length):(r7 l i j a b).length=l.length:=by simp[r7]
def aad(l:List Int)(i j:Nat)(a:i<l.length)(b:j<l.length):(r7 l i j a b).Perm l:=List.set_set_perm a b
def Gm{M L:Nat}{cap:Option Nat}{aY:List Int}{rest:List (List aa)}(h:gm H M L cap aY rest){i:Nat}(a:i<aY.length)(n:Int):bA P H 3 (.ptr L i 0) (J X n)=D (H.set L (.row Z 1 (il (aY.set i n)++rest))):=by
 rw[fN IY h.row (by rw[List.getElem?_append_left (by rw[lT];exact a)];exact vC (n:=aY[i]) (by simp[a])) rfl rfl ai,<-KI,List.set_append_left _ _ (by rw[lT];exact a)];rfl
def BB{M L:Nat}{cap:Option Nat}{aY:List Int}{rest:List (List aa)}(h:gm H M L cap aY rest){i j:Nat}(a:i<aY.length)(b:j<aY.length):W (aC P ax 282 [.aJ L 0 aY.length 1 cap,J X i,J X j] H) λr H'=>r= .tuple []/\H'=H.set L (.row Z 1 (il (r7 aY i j a b)++rest)):=by
 refine bZ (λ_=>UM 0) ?_;have ae:=h.set (wk':=aY.set i aY[j]) (by simp);have c:=Gm ae (i:=j) (by simpa using b) aY[i];rw[ad.set_set]at c;simp-implicitDefEqProofs(disch:=try exact al)only[rA,aq,h.at_ a,h.at_ b,Gm h a,c];exact aK.2 ⟨rfl,rfl⟩
end
end
section
open Go.bp
section
variable {H:ad}
structure hf(H H':ad)(M L:Nat)(cap:Option Nat)(rest:List (List aa))(aY wk':List Int):Prop where
 q:gm H' M L cap wk' rest
 perm:wk'.Perm aY
 next:H'.next=H.next
 get:∀k,k≠L->H'.get k=H.get k
def hf.refl{M L:Nat}{cap:Option Nat}{rest:List (List aa)}{aY:List Int}(h:gm H M L cap aY rest):hf H H M L cap rest aY aY:=⟨h,.refl _,rfl,λ_ _=>rfl⟩
def hf.trans{H1 a:ad}{M L:Nat}{cap:Option Nat}{rest:List (List aa)}{aY c d:List Int}(h:hf H H1 M L cap rest aY c)(k:hf H1 a M L cap rest c d):hf H a M L cap rest aY d:=
 ⟨k.q,k.perm.trans h.perm,k.next.trans h.next,λj b=>(k.get j b).trans (h.get j b)⟩
def hf.swap{M L:Nat}{cap:Option Nat}{rest:List (List aa)}{aY:List Int}(h:gm H M L cap aY rest){i j:Nat}(a:i<aY.length)(b:j<aY.length):hf H (H.set L (.row Z 1 (il (r7 aY i j a b)++rest))) M L cap rest aY (r7 aY i j a b):=
 ⟨h.set (pg _ _ _ _ _),aad _ _ _ _ _,rfl,λk c=>ad.cW (Ne.symm c)⟩
def I9{M L:Nat}{cap:Option Nat}{rest:List (List aa)}{N:Nat}:∀(m j:Nat) (H:ad) (aY:List Int),j<m->j<aY.length->aY.length<=1000000000->gm H M L cap aY rest->W (na (aC P ax) N m (.iface 288 (.ptr M 0 7)) (J X j) H) λr H'=>r= .tuple []/\∃wk',hf H H' M L cap rest aY wk'
 |0,_,_,_,hm,_,_,_=>ai
 |m+1,0,H,aY,_,b,e,h=>by
  have f:ar P .sub 3 C (J X ((0:Nat):Int)) (J X 1)=D (J X (-1)):=ag;have c:ar P .quo 3 C (J X (-1)) (J X 2)=D (J X 0):=ag;have d:ar P .eql 3 Z (J X 0) (J X ((0:Nat):Int))=D (y C):=ag;simp only[na,uL,f,c,d,lJ];simp-implicitDefEqProofs(disch:=try exact al)only[aq];exact aK.2 ⟨rfl,aY,.refl h⟩
 |m+1,k+1,H,aY,hm,b,e,h=>by
  have i:IntKind.i64.wrap (((k+1:Nat):Int)-1)=(k:Int):=by rw[wrap_i64 ai ai];omega
  have c:ar P .quo 3 C (J X (k:Int)) (J X 2)=D (J X ((k/2:Nat):Int)):=by
   show(if(2:Int)=0 then I else D (aa.int X (IntKind.i64.wrap ((k:Int).tdiv 2))))=_;rw[if_neg b_,Int.tdiv_eq_ediv_of_nonneg ai,show((k:Int)/2)=((k/2:Nat):Int) by omega,wrap_i64 ai ai]
  have d:(((k/2:Nat):Int)==((k+1:Nat):Int))=false:=beq_eq_false_iff_ne.2 ai;have a:k/2<aY.length:=ai;simp-implicitDefEqProofs(disch:=try exact al)only[na,uL,aq,aG,i,c,d,Aj,h.eO];refine jv (Ab h b a) ?_;cases n:decide (aY[k+1]<aY[k/2])with
  |false=>
   simp-implicitDefEqProofs(disch:=try exact al)only[aq,Bool.not_false];exact aK.2 ⟨rfl,aY,.refl h⟩
  |true=>
   simp-implicitDefEqProofs(disch:=try exact al)only[aq,Bool.not_true,hE,Ak,h.eO];refine bk (BB h a b) ?_;rintro _ H1 ⟨rfl,rfl⟩;refine⟨by simp,?_⟩;have q:=hf.swap h a b;refine(I9 m (k/2) _ _ ai (by rw[pg];exact a) (by rw[pg];exact e) q.q).mono ?_;rintro r l ⟨rfl,wk',g⟩;exact⟨rfl,wk',q.trans g⟩
def abe{M L:Nat}{cap:Option Nat}{rest:List (List aa)}{aY:List Int}(h:gm H M L cap aY rest){j:Nat}(b:j<aY.length)(a:aY.length<=1000000000):W (aC P ax 250 [.iface 288 (.ptr M 0 7),J X j] H) λr H'=>r= .tuple []/\∃wk',hf H H' M L cap rest aY wk':=by
 refine bZ (λ_=>UD (j+1)) ?_;simp-implicitDefEqProofs(disch:=try exact al)only[rl];exact I9 (j+1) j H aY ai b a h
def Dq(i0 i:Nat){N:Nat}:W (kH (aC P ax) N (J X i0) (J X i) H) λr H'=>(∃b,r= y b)/\H'=H:=by
 simp-implicitDefEqProofs(disch:=try exact al)only[kH,aq,aG];exact aK.2 ⟨⟨_,rfl⟩,rfl⟩
def Dr{M L:Nat}{cap:Option Nat}{rest:List (List aa)}{i0 n:Nat}{N:Nat}:∀(m i:Nat) (H:ad) (aY:List Int),n<i+m->n<=aY.length->aY.length<=500000000->gm H M L cap aY rest->i<=n->0<m->W (kI (aC P ax) N m (.iface 288 (.ptr M 0 7)) (J X i0) (J X n) (J X i) H) λr H'=>(∃b,r= y b)/\∃wk',hf H H' M L cap rest aY wk'
 |0,_,_,_,_,_,_,_,_,A=>ai
 |m+1,i,H,aY,hm,aS,p,h,E,_=>by
  have e:ar P .mul 3 C (J X 2) (J X i)=D (J X ((2*i:Nat):Int)):=by
   show D (aa.int X (IntKind.i64.wrap (2*(i:Int))))=_;rw[wrap_i64 ai ai];simp
  have k:=c3 (show 2*i<=1000000000 by omega);by_cases x:n<=2*i+1
  ·have c:((n:Int)<=((2*i+1:Nat):Int)):=ai;simp-implicitDefEqProofs(disch:=try exact al)only[kI,rn,aq,aG,e,k,c,decide_true];refine(Dq i0 i).mono ?_;rintro r H' ⟨a,rfl⟩;exact⟨a,aY,.refl h⟩
  have c:¬((n:Int)<=((2*i+1:Nat):Int)):=ai;have l:¬(((2*i+1:Nat):Int)<0):=ai;have o:=c3 (show 2*i+1<=1000000000 by omega);have go:∀j,i<j->j<n->W (o4 (aC P ax) N (kI (aC P ax) N m) (.iface 288 (.ptr M 0 7)) (J X i0) (J X n) (J X i) (J X j) H) λr H'=>(∃b,r= y b)/\∃wk',hf H H' M L cap rest aY wk':=by
   intro j B G;have f:i<aY.length:=ai;have g:j<aY.length:=ai;simp-implicitDefEqProofs(disch:=try exact al)only[o4,aq,hE,Aj,h.eO];refine fu (Ab h g f) ?_;cases u:decide (aY[j]<aY[i])with
   |false=>
    simp-implicitDefEqProofs(disch:=try exact al)only[aq,Bool.not_false];refine(Dq i0 i).mono ?_;rintro r H' ⟨a,rfl⟩;exact⟨a,aY,.refl h⟩
   |true=>
    simp-implicitDefEqProofs(disch:=try exact al)only[aq,Bool.not_true,hE,Ak,h.eO];refine bk (BB h f g) ?_;rintro _ H1 ⟨rfl,rfl⟩;refine⟨by simp,?_⟩;have q:=hf.swap h f g;refine(Dr m j _ _ ai (by rw[pg];exact aS) (by rw[pg];exact p) q.q ai ai).mono ?_;rintro r w ⟨a,wk',v⟩;exact⟨a,wk',q.trans v⟩
  by_cases z:2*i+1+1<n
  ·have d:(((2*i+1+1:Nat):Int)<(n:Int)):=ai;have s:2*i+1<aY.length:=ai;have t:2*i+1+1<aY.length:=ai;simp-implicitDefEqProofs(disch:=try exact al)only[kI,rn,aq,aG,e,k,o,c,l,d,decide_true,decide_false,Aj,h.eO];refine jv (Ab h t s) ?_;cases u:decide (aY[2*i+1+1]<aY[2*i+1])with
   |false=>
    simp-implicitDefEqProofs(disch:=try exact al)only[aq];exact go _ ai ai
   |true=>
    simp-implicitDefEqProofs(disch:=try exact al)only[aq];exact go _ ai ai
  ·have d:¬(((2*i+1+1:Nat):Int)<(n:Int)):=ai;simp-implicitDefEqProofs(disch:=try exact al)only[kI,rn,aq,aG,e,k,o,c,l,d,decide_false];exact go _ ai ai
end
end
section
open Go.bp
def dd:aa->Option Nat
 | .aJ L _ _ _ _=>D L
 |_=>I
section
variable {H:ad}
def LQ{M L:Nat}{cap:Option Nat}{rest:List (List aa)}{aY:List Int}(h:gm H M L cap aY rest){n:Nat}(aS:n<=aY.length)(a:aY.length<=500000000):W (aC P ax 251 [.iface 288 (.ptr M 0 7),J X 0,J X n] H) λr H'=>(∃b,r= y b)/\∃wk',hf H H' M L cap rest aY wk':=by
 refine bZ (λ_=>UE (n+1)) ?_;simp-implicitDefEqProofs(disch:=try exact al)only[rm];exact Dr (i0:=0) (N:=n+1) (n+1) 0 H aY ai aS a h ai ai
def nJ{M:Nat}{cs:List aa}{v:aa}(g:H.get M=D (.row Z 9 [cs]))(l:v.one=C)(az:cs.length=9):bA P H 246 (.ptr M 0 7) v=D (H.set M (.row Z 9 [cs.set 7 v])):=by
 have k:=dG l;rw[fN (n:=1) ag g rfl (by rw[k];rfl) (by rw[k];simp[l]) b_,k];obtain⟨a,b,c,d,e,f,h,i,j,rfl⟩:∃a b c d e f h i j,cs=[a,b,c,d,e,f,h,i,j]:=by
  match cs,az with
  |[a,b,c,d,e,f,h,i,j],_=>exact⟨a,b,c,d,e,f,h,i,j,rfl⟩
 rfl
def oc{M:Nat}{cs:List aa}{v:aa}(g:H.get M=D (.row Z 9 [cs]))(a:cs[7]? =D v):aj P H 246 (.ptr M 0 7)=D v:=by
 rw[fB (i:=0) (c:=7) ag g rfl,a]
def bG.lb{B M:Nat}{aY:List Int}{ee:aa}{cs:List aa}(h:bG bu B bH H aY ee)(o:M<B)(cu:H.get M=D (.row Z 9 [cs]))(c:cs[7]? =D ee)(l:aY≠[]):∃L cap rest,ee= .aJ L 0 aY.length 1 cap/\B<=L/\(cap=I\/cap=D aY.length)/\gm H M L cap aY rest:=by
 rcases h.eG with⟨_,e⟩|⟨L,els,cap,rfl,_,g,hle,j,k⟩
 ·exact absurd e l
 ·have f:=h.low L _ _ rfl;have e:els=il aY++els.drop aY.length:=by
   apply List.ext_getElem?;intro i;by_cases a:i<aY.length
   ·rw[List.getElem?_append_left (by rw[lT];exact a)];obtain⟨d,m,n⟩:=k i aY[i] (by simp[a]);rw[m,show d=[aa.int X aY[i]]from n];exact(vC (by simp[a])).symm
   ·rw[List.getElem?_append_right (by rw[lT];omega),lT,List.getElem?_drop]
    congr 1;omega
  refine⟨L,cap,els.drop aY.length,rfl,f,j,by rw[<-e];exact g,oc cu c,ai,λb=> ?_⟩;exact oc (by rw[ad.cW ai];exact cu) c
def gm.lc{B M L:Nat}{cap:Option Nat}{aY:List Int}{rest:List (List aa)}(h:gm H M L cap aY rest)(d:B<=L)(aA:cap=I\/cap=D aY.length):bG bu B bH H aY (.aJ L 0 aY.length 1 cap):=
 ⟨.inr ⟨L,_,cap,rfl,trivial,h.row,by simp[lT],aA,λi a b=>⟨[J X a],by rw[List.getElem?_append_left (by rw[lT];exact(List.getElem?_eq_some_iff.1 b).1)];exact vC b,rfl⟩⟩,λL' n c e=>by cases e;exact d⟩
structure pt(B M:Nat)(cs:List aa)(ee:aa)(H H':ad)(wk':List Int)(a:aa):Prop where
 lc:bG bu B bH H' wk' a
 Ar:jt bu a
 cu:H'.get M=some (.row false 9 [cs.set 7 a])
 next:H.next<=H'.next
 get:∀k,k<H.next->k≠M->dd ee≠some k->H'.get k=H.get k
 hM:∀L,dd a=some L->dd ee=some L\/H.next<=L
def ZT(l:Nat)(n:Int):cv P l 246 1 [(0,J X n)]=D (.aJ l 0 1 1 (D 1),.row Z 1 [[J X n]]):=nI jV l rfl rfl rfl
def bG.KB{B:Nat}{l:List Int}{v:aa}{a:Int}(h:bG bu B bH H l v)(d:B<=H.next)(az:l.length<=999999999):
  ∃b H',cS P (H.push (.row Z 1 [[J X a]])) [246,246] v (.aJ H.next 0 1 1 (D 1))=D (b,H')/\bG bu B bH H' (l++[a]) b/\dt B H H'/\H.next<H'.next/\(∀k,k<H.next->(∀L n c,v= .aJ L 0 n 1 c->k≠L)->H'.get k=H.get k)/\(b=v\/∃n,b= .aJ (H.next+1) 0 n 1 I):=
 bG.pD (K:=bu) jV h d (ay.refl _) (a:=a) (cs:=[J X a]) rfl (λ_ _=>trivial) az
def S6{B M:Nat}{aY:List Int}{ee:aa}{cs:List aa}(h:bG bu B bH H aY ee)(aS:jt bu ee)(w:M<B)(u:B<=H.next)(cu:H.get M=D (.row Z 9 [cs]))(x:cs.length=9)(i:cs[7]? =D ee)(az:aY.length<=400000000)(v:Int):
  W (aC P ax 284 [.ptr M 0 7,.iface 3 (J X v)] H) λr H'=>r= .tuple []/\∃R,pt B M cs ee H H' (aY++[v]) R:=by
 refine bZ (λ_=>UO 0) ?_;obtain⟨Q,H',p,b,s,S,t,f⟩:=h.KB (a:=v) u ai;have o:nR P 3 Z (.iface 3 (J X v))=D (J X v):=ag;have K:=ay.push H (.row Z 1 [[J X v]]);have g:H'.get M=D (.row Z 9 [cs]):=by rw[s.2 M w];exact cu
 have hle:(H.push (.row Z 1 [[J X v]])).next<=H'.next:=by simp;omega
 have E:=b.aJ.one;simp-implicitDefEqProofs(disch:=try exact al)only[rC,aq,aO,oc cu i,oc (K.get cu) i,o,ZT,p,nJ g E x,eA h.aJ];have G:=ad.b6 g;refine aK.2 ⟨rfl,Q,?_,?_,ad.dA G,by simp;omega,?_,?_⟩
 ·refine⟨?_,b.low⟩;rcases b.eG with q|⟨L',els,cap,m,N,O,d⟩
  ·exact .inl q
  ·have:=b.low _ _ _ m;exact .inr ⟨L',els,cap,m,N,by rw[ad.cW ai];exact O,d.1,d.2.1,d.2.2⟩
 ·exact aS.app f
 ·intro k z A l;rw[ad.cW (Ne.symm A)];exact t k z λL n c e=>by rintro rfl;rw[e]at l;exact l rfl
 ·intro L j;rcases f with rfl|⟨T,rfl⟩
  ·exact .inl j
  ·cases j;exact .inr ai
def S5{B M:Nat}{aY:List Int}{v:Int}{ee:aa}{cs:List aa}(h:bG bu B bH H (aY++[v]) ee)(aS:jt bu ee)(N:M<B)(cu:H.get M=D (.row Z 9 [cs]))(u:cs.length=9)(s:cs[7]? =D ee)(az:aY.length<=400000000):
  W (aC P ax 283 [.ptr M 0 7] H) λr H'=>r= .iface 3 (J X v)/\∃m,pt B M cs ee H H' aY m/\dd m=dd ee:=by
 refine bZ (λ_=>UN 0) ?_;obtain⟨w,s1,s2,G⟩:=h.pop jV aS;obtain⟨p,i1,i2⟩:∃p,a6 P 246 ee (J X aY.length)=D p/\aj P H 3 p=D (J X v):=by
  obtain⟨p,n,b,c,d⟩:=aZ.val (K:=bu) jV yw h.aJ (j:=(aY.length:Int)) (a:=v) ai (by simp);exact⟨p,b,by rw[c,show n=[_]from d];rfl⟩
 have g:=h.aJ.len jV (H0:= .empty);have l:IntKind.i64.wrap ((((aY++[v]).length:Nat):Int)-1)=(aY.length:Int):=by
  simp only[List.length_append,List.length_cons,List.length_nil,Nat.zero_add];rw[wrap_i64 ai ai];omega
 have z:=s2.aJ.one;have A:ih P 3 (J X v)=D (.iface 3 (J X v)):=ag;simp only[List.length_append,List.length_cons,List.length_nil,Nat.zero_add]at g l;simp-implicitDefEqProofs(disch:=try exact al)only[rB,bf,aq,aG,oc cu s,g,l,i1,i2,s1,nJ cu z u,A];have E:=ad.b6 cu;have i:dd w=dd ee:=by
  rcases h.eG with⟨_,e⟩|⟨L,els,cap,rfl,_⟩
  ·simp at e
  ·have:fX P 246 (.aJ L 0 (aY++[v]).length 1 cap) I (D (J X aY.length)) I=D w:=s1;rcases aS L _ _ rfl with rfl|o
   ·have ae:(aY.length:Int)<=(aY.length:Int)+1:=ai;simp[fX,jV.un,jV.ts,eK,ae]at this;rw[<-this];rfl
   ·simp at o
 refine aK.2 ⟨rfl,w,⟨?_,G,ad.dA E,by simp,?_,?_⟩,i⟩
 ·refine⟨?_,s2.low⟩;rcases s2.eG with q|⟨L',els,cap,b,c,d,f⟩
  ·exact .inl q
  ·have:=s2.low _ _ _ b;exact .inr ⟨L',els,cap,b,c,by rw[ad.cW ai];exact d,f.1,f.2.1,f.2.2⟩
 ·intro k O x Q;rw[ad.cW (Ne.symm x)]
 ·intro L t;exact .inl (i▸t)
def NY{B M:Nat}{aY:List Int}{ee:aa}{cs:List aa}(h:bG bu B bH H aY ee)(aS:jt bu ee)(c:M<B)(g:B<=H.next)(cu:H.get M=D (.row Z 9 [cs]))(n:cs.length=9)(f:cs[7]? =D ee)(az:aY.length<=300000000)(v:Int):
  W (aC P ax 222 [.iface 288 (.ptr M 0 7),.iface 3 (J X v)] H) λr H'=>r= .tuple []/\∃wk' u,wk'.Perm (v::aY)/\pt B M cs ee H H' wk' u:=by
 refine bZ (λ_=>Um 0) ?_;simp-implicitDefEqProofs(disch:=try exact al)only[qZ,aq,hE,Qb];refine bk (S6 h aS c g cu n f ai v) ?_;rintro _ H1 ⟨rfl,b,q⟩;refine⟨q.next,?_⟩;have e:(cs.set 7 b)[7]? =D b:=by rw[List.getElem?_set_self ai]
 simp-implicitDefEqProofs(disch:=try exact al)only[aq,hE,Fj,oc q.cu e];have hlen:W (aC P ax 223 [b] H1) λr H'=>r= J X ((aY++[v]).length:Nat)/\H'=H1:=by
  refine bZ (λ_=>AU 0) ?_;simp-implicitDefEqProofs(disch:=try exact al)only[mZ,bf,q.lc.aJ.len jV];exact aK.2 ⟨rfl,rfl⟩
 refine fu hlen ?_;have t:IntKind.i64.wrap ((((aY++[v]).length:Nat):Int)-1)=(aY.length:Int):=by
  simp only[List.length_append,List.length_cons,List.length_nil,Nat.zero_add];rw[wrap_i64 ai ai];omega
 simp-implicitDefEqProofs(disch:=try exact al)only[aq,aG,t];obtain⟨L,cap,rest,rfl,i,m,lb⟩:=q.lc.lb c q.cu e (by simp);refine bk (abe lb (j:=aY.length) (by simp) (by simp;omega)) ?_;rintro _ w ⟨rfl,wk',r⟩;refine⟨by rw[r.next];exact b4 _,aK.2 ⟨rfl,wk',.aJ L 0 (aY++[v]).length 1 cap,r.perm.trans (List.perm_append_comm),?_⟩⟩;have a:wk'.length=(aY++[v]).length:=r.perm.length_eq;rw[<-a];have hM:=q.hM L rfl;refine⟨r.q.lc i (by rw[a];exact m),?_,?_,?_,?_,?_⟩
 ·rw[a];exact q.Ar
 ·rw[r.get M ai,a];exact q.cu
 ·rw[r.next];exact q.next
 ·intro k o s d;have p:k≠L:=by
   rintro rfl;rcases hM with ae|ae
   ·exact d ae
   ·omega
  rw[r.get k p];exact q.get k o s d
 ·intro L' l;cases l;exact hM
def NX{B M:Nat}{aY:List Int}{ee:aa}{cs:List aa}(h:bG bu B bH H aY ee)(aS:jt bu ee)(m:M<B)(cu:H.get M=D (.row Z 9 [cs]))(N:cs.length=9)(d:cs[7]? =D ee)(az:aY.length<=300000000)(p:aY≠[]):
  W (aC P ax 224 [.iface 288 (.ptr M 0 7)] H) λr H'=>∃v wk' l,r= .iface 3 (J X v)/\(v::wk').Perm aY/\pt B M cs ee H H' wk' l:=by
 refine bZ (λ_=>Un 0) ?_;have hlen:W (aC P ax 223 [ee] H) λr H'=>r= J X (aY.length:Nat)/\H'=H:=by
  refine bZ (λ_=>AU 0) ?_;simp-implicitDefEqProofs(disch:=try exact al)only[mZ,bf,h.aJ.len jV];exact aK.2 ⟨rfl,rfl⟩
 have s:0<aY.length:=List.length_pos_iff.2 p;have T:IntKind.i64.wrap ((aY.length:Int)-1)=((aY.length-1:Nat):Int):=by rw[wrap_i64 ai ai];omega
 simp-implicitDefEqProofs(disch:=try exact al)only[q0,aq,hE,Fj,oc cu d];refine fu hlen ?_;obtain⟨L,cap,rest,rfl,E,K,lb⟩:=h.lb m cu d p;simp-implicitDefEqProofs(disch:=try exact al)only[aq,aG,T,hE,Ak,lb.eO];refine bk (BB lb (i:=0) (j:=aY.length-1) s ai) ?_;rintro _ H1 ⟨rfl,rfl⟩;refine⟨by simp,?_⟩;have u:=hf.swap lb s (show aY.length-1<aY.length by omega);refine bk (LQ u.q (n:=aY.length-1) (by rw[pg];omega) (by rw[pg];omega)) ?_;rintro _ x ⟨⟨b,rfl⟩,f,w⟩;refine⟨by rw[w.next];exact b4 _,?_⟩;have r:=u.trans w;have c:f.length=aY.length:=r.perm.length_eq;obtain⟨g,v,z⟩:∃g v,f=g++[v]:=by
  rcases List.eq_nil_or_concat f with rfl|⟨a,b,e⟩
  ·simp at c;omega
  ·exact⟨a,b,by rw[e,List.concat_eq_append]⟩
 subst z;have t:=r.q.lc E (by rw[c];exact K);have A:x.get M=D (.row Z 9 [cs]):=by rw[r.get M (by have:=lb.ne;omega)];exact cu
 rw[c]at t;simp-implicitDefEqProofs(disch:=try exact al)only[aq,hE,Qa];refine bk (S5 t aS m A N d (by simp at c;omega)) ?_;rintro _ U ⟨rfl,l,q,S⟩;refine⟨q.next,aK.2 ⟨v,g,l,rfl,?_,q.lc,q.Ar,q.cu,by have:=q.next;rw[r.next]at this;exact this,?_,?_⟩⟩
 ·exact(List.perm_append_comm (l₁:=[v])).trans r.perm
 ·intro k O R o;have Q:k≠L:=by rintro rfl;exact o rfl
  rw[q.get k (by rw[r.next];exact O) R o,r.get k Q]
 ·intro L' G;exact .inl (S▸G)
end
end
section
open Go.bp
def fx(l:List Nat):List (List aa):=l.map λn=>[J .u64 (n:Nat)]
def vD{l:List Nat}{i n:Nat}(h:l[i]? =D n):(fx l)[i]? =D [J .u64 (n:Nat)]:=by simp[fx,h]
def Cn(l:List Nat)(i n:Nat):(fx l).set i [J .u64 (n:Nat)]=fx (l.set i n):=by simp[fx,List.map_set]
def gu(q:bp.Ask):List aa:=[J X (if q.eO then 3 else 4),J X (q.o:Nat),J X (q.f:Nat)]
def vs:ej bp.Ask:=⟨3,λ_ _ q cs=>cs=gu q,by rintro _ _ q _ rfl;exact⟨rfl,rfl⟩,λ_ h=>h⟩
def sU:eC 284 286 3:=⟨ag,ag,⟨24,ag,b_⟩,⟨.agg [J X 0,J X 0,J X 0],ag,rfl,rfl⟩,b_⟩
def oj:eC 243 251 1:=⟨ag,ag,⟨8,ag,b_⟩,⟨J .u64 0,ag,rfl,rfl⟩,b_⟩
def Ai:eC 244 284 1:=⟨ag,ag,⟨24,ag,b_⟩,⟨.aB,ag,rfl,rfl⟩,b_⟩
def gi(p:Nat×Nat):aa×aa:=(.agg [J X (p.1:Nat),J X (p.2:Nat)],.agg [])
def gA(n V a:Nat)(dv:Nat->aa):List aa:=[J X (n:Nat),J X 8,.aJ a 0 V 1 (D V),.aJ (a+1) 0 V 1 (D V),.aJ (a+2) 0 V 1 (D V),.aJ (a+3) 0 V 1 (D V),.map (a+4),dv (2*V),.aJ (a+5) 0 V 1 (D V)]
structure cq(n V a:Nat)(S:bI)(aY:List Int)(dv:Nat->aa)(es:List (Nat×Nat))(H:ad):Prop where
 cu:H.get (a+6)=some (.row false 9 [gA n V a dv])
 bF:H.get a=some (.row false 1 (fx S.am))
 ez:H.get (a+1)=some (.row false 1 ((List.range V).map λv=>[dv v]))
 gq:H.get (a+2)=some (.row false 1 ((List.range V).map λv=>[dv (V+v)]))
 fJ:H.get (a+3)=some (.row false 1 (fx S.seen))
 fz:H.get (a+4)=some (.map (es.map gi))
 gg:H.get (a+5)=some (.row false 1 (fP S.waits))
 dc:S.am.length=V
 aW:S.fh.length=V
 fC:S.asks.length=V
 ls:S.seen.length=V
 lw:S.waits.length=V
 g:∀v,v<V->bG bu (a+7) bH H (bC (S.g v)) (dv v)
 q:∀v,v<V->bG vs (a+7) bH H (S.q v) (dv (V+v))
 w:bG bu (a+7) bH H aY (dv (2*V))
 wn:jt bu (dv (2*V))
 fc:∀o fj L,o<=2*V->fj<=2*V->dd (dv o)=some L->dd (dv fj)=some L->o=fj
 perm:aY.Perm (bC S.work)
 hL:∀x y,(x,y)∈es↔x<V/\y∈S.g x
 hJ:∀v,(S.g v).Nodup
 hp:∀v,∀b∈S.g v,b<V
 hD:S.work.Nodup
 hC:∀v∈S.work,v<V
 wt:∀u,u<V->S.w u=false->u∉S.work
 dY:∀v,S.a v<2^64
def Au:∀(V:Nat) {l:List Nat},l.Nodup->(∀x∈l,x<V)->l.length<=V
 |0,l,_,h=>by
  cases l with
  |nil=>simp
  |cons a l=>have:=h a (by simp);omega
 |V+1,l,aS,h=>by
  have ae:=Au V (aS.erase V) (λx aD=>by
   have ah:=(aS.mem_erase_iff.1 aD);have:=h x ah.2;have:=ah.1;omega)
  by_cases hm:V∈l
  ·rw[List.length_erase_of_mem hm]at ae;omega
  ·rw[List.erase_of_not_mem hm]at ae;omega
section
variable {n V a:Nat}{S:bI}{aY:List Int}{dv:Nat->aa}{es:List (Nat×Nat)}{H:ad}
def cq.lt(h:cq n V a S aY dv es H):a+7<=H.next:=by have:=ad.b6 h.cu;omega
def cq.Jt(h:cq n V a S aY dv es H):aY.length<=V:=by
 rw[h.perm.length_eq,bC,List.length_map];exact Au V h.hD h.hC
def cq.D_(h:cq n V a S aY dv es H)(v:Nat):(S.g v).length<=V:=Au V (h.hJ v) (h.hp v)
def cq.aI{H':ad}(h:cq n V a S aY dv es H)(p:ay H H'):cq n V a S aY dv es H':=
 {h with cu:=p.get h.cu,bF:=p.get h.bF,ez:=p.get h.ez,gq:=p.get h.gq,fJ:=p.get h.fJ,fz:=p.get h.fz,gg:=p.get h.gg,g:=λv b=>(h.g v b).aI p,q:=λv b=>(h.q v b).aI p,w:=h.w.aI p}
def eT(g:H.get (a+6)=D (.row Z 9 [gA n V a dv])):aj P H 3 (.ptr (a+6) 0 0)=D (J X n)/\aj P H 3 (.ptr (a+6) 0 1)=D (J X 8)/\aj P H 243 (.ptr (a+6) 0 2)=D (.aJ a 0 V 1 (D V))/\aj P H 31 (.ptr (a+6) 0 3)=D (.aJ (a+1) 0 V 1 (D V))/\aj P H 244 (.ptr (a+6) 0 4)=D (.aJ (a+2) 0 V 1 (D V))
  /\aj P H 243 (.ptr (a+6) 0 5)=D (.aJ (a+3) 0 V 1 (D V))/\aj P H 245 (.ptr (a+6) 0 6)=D (.map (a+4))/\aj P H 246 (.ptr (a+6) 0 7)=D (dv (2*V))/\aj P H 104 (.ptr (a+6) 0 8)=D (.aJ (a+5) 0 V 1 (D V)):=by
 rw[gA]at g;have t (t c:Nat) (b:dN P t=D Z):=fB (c:=c) (i:=0) b g rfl;exact⟨t _ 0 ag,t _ 1 ag,t _ 2 ag,t _ 3 ag,t _ 4 ag,t _ 5 ag,t _ 6 ag,t _ 7 ag,t _ 8 ag⟩
def fA{t e L v:Nat}(y:eC t e 1)(a:v<V):a6 P t (.aJ L 0 V 1 (D V)) (J X v)=D (.ptr L v 0):=by
 have:=wo (l:=L) (i:=0) (n:=V) (c:=some V) y (j:=(v:Int)) ai ai;simpa using this
def cq.od(h:cq n V a S aY dv es H){v:Nat}(b:v<V):aj P H 251 (.ptr a v 0)=D (J .u64 (S.a v:Nat)):=by
 rw[fB ag h.bF (vD (n:=S.a v) (by have:=h.dc;unfold bI.a;rw[List.getD_eq_getElem?_getD,List.getElem?_eq_getElem ai];rfl))];rfl
def cq.Pq(h:cq n V a S aY dv es H){v:Nat}(b:v<V):aj P H 251 (.ptr (a+3) v 0)=D (J .u64 (S.s v:Nat)):=by
 rw[fB ag h.fJ (vD (n:=S.s v) (by have:=h.ls;unfold bI.s;rw[List.getD_eq_getElem?_getD,List.getElem?_eq_getElem ai];rfl))];rfl
def cq.BI(h:cq n V a S aY dv es H){v:Nat}(b:v<V):S.waits[v]? =D (S.w v):=by
 have:=h.lw;unfold bI.w;rw[List.getD_eq_getElem?_getD,List.getElem?_eq_getElem ai];rfl
def cq.EY(h:cq n V a S aY dv es H){v:Nat}(b:v<V):aj P H 4 (.ptr (a+5) v 0)=D (y (S.w v)):=by
 rw[fB ag h.gg (Cm (h.BI b))];rfl
def cq.Pr(h:cq n V a S aY dv es H){v:Nat}(b:v<V):aj P H 30 (.ptr (a+1) v 0)=D (dv v):=by
 rw[fB ag h.ez (e:=[dv v]) (by simp[b])];rfl
def cq.sP(h:cq n V a S aY dv es H){v:Nat}(b:v<V):aj P H 284 (.ptr (a+2) v 0)=D (dv (V+v)):=by
 rw[fB ag h.gq (e:=[dv (V+v)]) (by simp[b])];rfl
def n3(g:H.get (a+6)=D (.row Z 9 [gA n V a dv])){t f:Nat}(e:n+t*8+f<=1000000):W (aC P ax 184 [.ptr (a+6) 0 0,J X t,J X f] H) λr H'=>r= J X (c5 n t f:Nat)/\H'=H:=by
 refine bZ (λ_=>T_ 0) ?_;have b:ar P .mul 3 Z (J X (t:Int)) (J X 8)=D (J X ((t*8:Nat):Int)):=by
  show D (aa.int X (IntKind.i64.wrap ((t:Int)*8)))=_;rw[wrap_i64 ai ai];simp
 have c:IntKind.i64.wrap ((n:Int)+((t*8:Nat):Int))=((n+t*8:Nat):Int):=by rw[wrap_i64 ai ai];omega
 have d:IntKind.i64.wrap (((n+t*8:Nat):Int)+(f:Int))=((c5 n t f:Nat):Int):=by rw[wrap_i64 ai ai,c5];omega
 simp-implicitDefEqProofs(disch:=try exact al)only[qL,aq,aO,aG,aM,eT g,b,c,d];exact aK.2 ⟨rfl,rfl⟩
end
end
section
open Go.bp
def Plain{α:Type}(K:ej α):Prop:=∀{H H':ad} {ok ok':Nat->Prop} {a:α} {cs:List aa},K.V H ok a cs->K.V H' ok' a cs
def fK:Plain bu:=λh=>h
def me:Plain vs:=λh=>h
def bG.frame{α:Type}{K:ej α}(e:Plain K){B:Nat}{H H':ad}{l:List α}{v:aa}(h:bG K B bH H l v)(c:∀L,dd v=D L->H'.get L=H.get L):bG K B bH H' l v:=by
 refine⟨?_,h.low⟩;rcases h.eG with ae|⟨L,els,cap,b,f,g,j,k,m⟩
 ·exact .inl ae
 ·exact .inr ⟨L,els,cap,b,f,by rw[c L (by rw[b];rfl)];exact g,j,k,λi a d=>by obtain⟨cs,n,o⟩:=m i a d;exact⟨cs,n,e o⟩⟩
def bG.hr{α:Type}{K:ej α}{B:Nat}{ok:Nat->Prop}{H:ad}{l:List α}{v:aa}(h:bG K B ok H l v){L:Nat}(e:dd v=D L):B<=L/\L<H.next:=by
 rcases h.eG with⟨rfl,_⟩|⟨L',els,cap,rfl,_,g,_⟩
 ·cases e
 ·cases e;exact⟨h.low _ _ _ rfl,ad.b6 g⟩
section
variable {n V a:Nat}{S:bI}{aY:List Int}{dv:Nat->aa}{es:List (Nat×Nat)}{H:ad}
def cq.ix(h:cq n V a S aY dv es H){o:Nat}(a7:o<=2*V){L:Nat}(e:dd (dv o)=D L):a+7<=L/\L<H.next:=by
 by_cases ae:o<V
 ·exact(h.g o ae).hr e
 ·by_cases ah:o<2*V
  ·have:=h.q (o-V) ai;rw[show V+(o-V)=o by omega]at this;exact this.hr e
  ·obtain rfl:o=2*V:=ai;exact h.w.hr e
def cq.other(h:cq n V a S aY dv es H){c:Nat}(aA:c<7)(b:bL):(∀k,k≠a+c->(H.set (a+c) b).get k=H.get k)/\(∀{α:Type} {K:ej α} {l:List α} {v:aa},Plain K->bG K (a+7) bH H l v->bG K (a+7) bH (H.set (a+c) b) l v):=by
 have ae:∀k,k≠a+c->(H.set (a+c) b).get k=H.get k:=λk d=>ad.cW (Ne.symm d)
 exact⟨ae,λf az=>az.frame f λL e=>ae L (by have:=(az.hr e).1;omega)⟩
def cq.Il(h:cq n V a S aY dv es H){v:Nat}(b:Bool)(i:∀u,u<V->({S with waits:=S.waits.set v b}:bI).w u=Z->u∉S.work):
  cq n V a {S with waits:=S.waits.set v b} aY dv es (H.set (a+5) (.row Z 1 (fP (S.waits.set v b)))):=by
 obtain⟨d,f⟩:=h.other (c:=5) ai (.row Z 1 (fP (S.waits.set v b)));have j:=h.lt;exact {
  cu:=by rw[d _ ai];exact h.cu,bF:=by rw[d _ ai];exact h.bF,ez:=by rw[d _ ai];exact h.ez,gq:=by rw[d _ ai];exact h.gq,fJ:=by rw[d _ ai];exact h.fJ,fz:=by rw[d _ ai];exact h.fz,gg:=ad.dA ai,
  dc:=h.dc,aW:=h.aW,fC:=h.fC,ls:=h.ls,lw:=by simpa using h.lw,g:=λv e=>f fK (h.g v e),q:=λv e=>f me (h.q v e),w:=f fK h.w,wn:=h.wn,fc:=h.fc,perm:=h.perm,hL:=h.hL,hJ:=h.hJ,hp:=h.hp,hD:=h.hD,hC:=h.hC,wt:=i,dY:=h.dY}
def cq.ZF(h:cq n V a S aY dv es H)(v x:Nat)(f:∀u,({S with am:=S.am.set v x}:bI).a u<2^64):
  cq n V a {S with am:=S.am.set v x} aY dv es (H.set a (.row Z 1 (fx (S.am.set v x)))):=by
 obtain⟨b,d⟩:=h.other (c:=0) ai (.row Z 1 (fx (S.am.set v x)));rw[Nat.add_zero]at b d;have i:=h.lt;exact {
  cu:=by rw[b _ ai];exact h.cu,bF:=ad.dA ai,ez:=by rw[b _ ai];exact h.ez,gq:=by rw[b _ ai];exact h.gq,fJ:=by rw[b _ ai];exact h.fJ,fz:=by rw[b _ ai];exact h.fz,gg:=by rw[b _ ai];exact h.gg,
  dc:=by simpa using h.dc,aW:=h.aW,fC:=h.fC,ls:=h.ls,lw:=h.lw,g:=λv e=>d fK (h.g v e),q:=λv e=>d me (h.q v e),w:=d fK h.w,wn:=h.wn,fc:=h.fc,perm:=h.perm,hL:=h.hL,hJ:=h.hJ,hp:=h.hp,hD:=h.hD,hC:=h.hC,wt:=h.wt,dY:=f}
def cq.ZG(h:cq n V a S aY dv es H)(v x:Nat):
  cq n V a {S with seen:=S.seen.set v x} aY dv es (H.set (a+3) (.row Z 1 (fx (S.seen.set v x)))):=by
 obtain⟨b,e⟩:=h.other (c:=3) ai (.row Z 1 (fx (S.seen.set v x)));have f:=h.lt;exact {
  cu:=by rw[b _ ai];exact h.cu,bF:=by rw[b _ ai];exact h.bF,ez:=by rw[b _ ai];exact h.ez,gq:=by rw[b _ ai];exact h.gq,fJ:=ad.dA ai,fz:=by rw[b _ ai];exact h.fz,gg:=by rw[b _ ai];exact h.gg,
  dc:=h.dc,aW:=h.aW,fC:=h.fC,ls:=by simpa using h.ls,lw:=h.lw,g:=λv d=>e fK (h.g v d),q:=λv d=>e me (h.q v d),w:=e fK h.w,wn:=h.wn,fc:=h.fc,perm:=h.perm,hL:=h.hL,hJ:=h.hJ,hp:=h.hp,hD:=h.hD,hC:=h.hC,wt:=h.wt,dY:=h.dY}
def dk(dv:Nat->aa)(o:Nat)(v:aa):Nat->aa:=λk=>if k=o then v else dv k
def fI(dv:Nat->aa)(o:Nat)(v:aa):dk dv o v o=v:=if_pos rfl
def d_(dv:Nat->aa){o k:Nat}(v:aa)(h:k≠o):dk dv o v k=dv k:=if_neg h
def aac(n V a:Nat)(dv:Nat->aa)(v:aa):(gA n V a dv).set 7 v=gA n V a (dk dv (2*V) v):=by
 simp only[gA,fI];rfl
def IH(n V a:Nat)(dv:Nat->aa){o:Nat}(v:aa)(h:o≠2*V):gA n V a (dk dv o v)=gA n V a dv:=by
 simp only[gA,d_ dv v (Ne.symm h)]
def zk{V:Nat}{dv:Nat->aa}{o:Nat}{v:aa}(fc:∀o fj L,o<=2*V->fj<=2*V->dd (dv o)=D L->dd (dv fj)=D L->o=fj)(a7:o<=2*V)(f:∀L,dd v=D L->dd (dv o)=D L\/∀fj,fj<=2*V->dd (dv fj)≠D L):
  ∀p b L,p<=2*V->b<=2*V->dd (dk dv o v p)=D L->dd (dk dv o v b)=D L->p=b:=by
 intro p b L c d e a;by_cases ae:p=o<;>by_cases ah:b=o
 ·rw[ae,ah]
 ·subst ae;rw[fI]at e;rw[d_ dv v ah]at a;rcases f L e with q|q
  ·exact absurd (fc _ _ L d a7 a q) ah
  ·exact absurd a (q b d)
 ·subst ah;rw[fI]at a;rw[d_ dv v ae]at e;rcases f L a with q|q
  ·exact absurd (fc _ _ L c a7 e q) ae
  ·exact absurd e (q p c)
 ·rw[d_ dv v ae]at e;rw[d_ dv v ah]at a;exact fc _ _ L c d e a
def w9{V:Nat}{dv a:Nat->aa}(h:∀v,v<V->a v=dv v):((List.range V).map λv=>[a v])=(List.range V).map λv=>[dv v]:=
 List.map_congr_left λv b=>by rw[h v (by simpa using b)]
def cq.a8(h:cq n V a S aY dv es H)(z:0<V){c:List Nat}{wk':List Int}{d:aa}{H':ad}(q:pt (a+7) (a+6) (gA n V a dv) (dv (2*V)) H H' wk' d)(s:wk'.Perm (bC c))(p:c.Nodup)(m:∀v∈c,v<V)(t:∀u,u<V->S.w u=Z->u∉c):
  cq n V a {S with work:=c} wk' (dk dv (2*V) d) es H':=by
 have A:=h.lt;have low:∀k,k<a+6->H'.get k=H.get k:=λk B=>q.get k ai ai λe=>by have:=(h.ix (b4 _) e).1;omega
 have l:∀o L,o<2*V->dd (dv o)=D L->H'.get L=H.get L:=λo L a7 e=>by
  have az:=h.ix (Nat.le_of_lt a7) e;exact q.get L az.2 ai λf=>by have:=h.fc _ _ L (Nat.le_of_lt a7) (b4 _) e f;omega
 have i:∀v,v<V->dk dv (2*V) d v=dv v:=λv b=>d_ _ _ ai
 have j:∀v,v<V->dk dv (2*V) d (V+v)=dv (V+v):=λv b=>d_ _ _ ai
 exact {
  cu:=by rw[q.cu,aac],bF:=by rw[low _ ai];exact h.bF,ez:=by rw[low _ ai,w9 i];exact h.ez,gq:=by rw[low _ ai,w9 (dv:=λv=>dv (V+v)) j];exact h.gq,fJ:=by rw[low _ ai];exact h.fJ,fz:=by rw[low _ ai];exact h.fz,gg:=by rw[low _ ai];exact h.gg,
  dc:=h.dc,aW:=h.aW,fC:=h.fC,ls:=h.ls,lw:=h.lw,
  g:=λv b=>by rw[i v b];exact(h.g v b).frame fK λL e=>l v L ai e
  q:=λv b=>by rw[j v b];exact(h.q v b).frame me λL e=>l (V+v) L ai e
  w:=by rw[fI];exact q.lc
  wn:=by rw[fI];exact q.Ar
  fc:=zk h.fc (b4 _) λL e=>(q.hM L e).imp id λx fj r f=>by have:=(h.ix r f).2;omega
  perm:=s,hL:=h.hL,hJ:=h.hJ,hp:=h.hp,hD:=p,hC:=m,wt:=t,dY:=h.dY}
def Fr(V a:Nat)(dv b:Nat->aa)(H H':ad):Prop:=H.next<=H'.next/\∀k,k<H.next->(k<a\/a+7<=k)->(∀o,o<=2*V->dd (dv o)≠D k)->H'.get k=H.get k/\∀o,o<=2*V->dd (b o)≠D k
def Fr.refl(V a:Nat)(dv:Nat->aa)(H:ad):Fr V a dv dv H H:=⟨b4 _,λ_ _ _ h=>⟨rfl,h⟩⟩
def Fr.trans{V a:Nat}{d1 d2 d3:Nat->aa}{H1 b c:ad}(h:Fr V a d1 d2 H1 b)(k:Fr V a d2 d3 b c):Fr V a d1 d3 H1 c:=
 ⟨Nat.le_trans h.1 k.1,λj e d az=>by
  obtain⟨f,g⟩:=h.2 j e d az;obtain⟨i,l⟩:=k.2 j (Nat.lt_of_lt_of_le e h.1) d g;exact⟨i.trans f,l⟩⟩
def Fr.aI{V a:Nat}{dv:Nat->aa}{H H':ad}(p:ay H H'):Fr V a dv dv H H':=⟨p.1,λk b _ h=>⟨p.2 k b,h⟩⟩
def Fr.set{V a c:Nat}{dv:Nat->aa}(H:ad)(aA:c<7)(b:bL):Fr V a dv dv H (H.set (a+c) b):=⟨by simp,λk e d h=>⟨ad.cW ai,h⟩⟩
def So(n V a:Nat)(c:bI)(keep:Nat->Prop)(dv:Nat->aa)(H:ad)(H':ad):Prop:=∃wk' b es',cq n V a c wk' b es' H'/\(∀o,keep o->b o=dv o)/\Fr V a dv b H H'
def cq.D5(h:cq n V a S aY dv es H){wk':List Int}{c:aa}{H':ad}(q:pt (a+7) (a+6) (gA n V a dv) (dv (2*V)) H H' wk' c):Fr V a dv (dk dv (2*V) c) H H':=
 ⟨q.next,λk d f az=>⟨q.get k d ai (az _ (b4 _)),λo a7 e=>by
  by_cases b:o=2*V
  ·subst b;rw[fI]at e;rcases q.hM k e with ae|ae
   ·exact az _ (b4 _) ae
   ·omega
  ·rw[d_ _ _ b]at e;exact az o a7 e⟩⟩
def cq.hP{b:Nat->aa}{H':ad}(h:cq n V a S aY dv es H)(f:Fr V a dv b H H'):dt a H H':=
 ⟨f.1,λk c=>(f.2 k (by have:=h.lt;omega) (.inl c) λo a7 e=>by have:=(h.ix a7 e).1;omega).1⟩
def BG{S:bI}{v u:Nat}{b:Bool}(a:v<S.waits.length):({S with waits:=S.waits.set v b}:bI).w u=if u=v then b else S.w u:=by
 unfold bI.w;exact jH a
def E9(h:cq n V a S aY dv es H)(m:V<=1000000){v:Nat}(b:v<V):W (aC P ax 181 [.ptr (a+6) 0 0,J X v] H) λr H'=>r= .tuple []/\So n V a (gR S v) (λo=>o<2*V) dv H H':=by
 refine bZ (λ_=>T7 0) ?_;have p:=h.lw;cases hw:S.w v with
 |true=>
  have l:=h.EY b;rw[hw]at l;simp-implicitDefEqProofs(disch:=try exact al)only[oO,aq,aO,aM,eT h.cu,fA Ah b,l,Bool.not_true];exact aK.2 ⟨rfl,aY,dv,es,by rw[gR,if_pos hw];exact h,λ_ _=>rfl,.refl _ _ _ _⟩
 |false=>
  have l:=h.EY b;rw[hw]at l;have st:=IC (b':=true) h.gg (h.BI b);have g:=h.wt v b hw;have ae:=h.Il (v:=v) C (λu hu e=>by
   rw[BG ai]at e;by_cases d:u=v
   ·rw[if_pos d]at e;cases e
   ·rw[if_neg d]at e;exact h.wt u hu e)
  have i1:∀l i c,ih P 288 (.ptr l i c)=D (.iface 288 (.ptr l i c)):=λl i c=>ag
  have i2:ih P 3 (J X (v:Nat))=D (.iface 3 (J X (v:Nat))):=ag;simp-implicitDefEqProofs(disch:=try exact al)only[oO,aq,aO,aM,eT h.cu,fA Ah b,l,Bool.not_false,st,i1,i2];have hlen:=ae.Jt;have f:=ae.lt;refine bk (NY ae.w ae.wn (show a+6<a+7 by omega) f ae.cu rfl rfl ai v) ?_;rintro _ k ⟨rfl,wk',j,pm,q⟩;refine⟨q.next,aK.2 ⟨rfl,wk',_,es,?_,λo (a7:o<2*V)=>d_ dv j (Nat.ne_of_lt a7),(Fr.set H ai _).trans (ae.D5 q)⟩⟩
  ·have e:gR S v={S with waits:=S.waits.set v C,work:=v::S.work}:=by rw[gR,if_neg (by rw[hw];simp)]
   rw[e];refine ae.a8 ai q (pm.trans ?_) (List.nodup_cons.2 ⟨g,h.hD⟩) ?_ ?_
   ·exact h.perm.cons _
   ·intro u hu;rcases List.mem_cons.1 hu with rfl|hu
    ·exact b
    ·exact h.hC u hu
   ·intro u hu e hm;rcases List.mem_cons.1 hm with rfl|hm
    ·rw[BG ai,if_pos rfl]at e;cases e
    ·exact ae.wt u hu e hm
def zK(h:cq n V a S aY dv es H)(i:V<=1000000){v x:Nat}(b:v<V)(aD:x<2^64)(e:S.a v<2^64):W (aC P ax 220 [.ptr (a+6) 0 0,J X v,J .u64 x] H) λr H'=>r= .tuple []/\So n V a (eS S v x) (λo=>o<2*V) dv H H':=by
 refine bZ (λ_=>Uk 0) ?_;by_cases he:S.a v|||x=S.a v
 ·have d:(((S.a v|||x:Nat):Int) != ((S.a v:Nat):Int))=false:=by rw[he];simp
  simp-implicitDefEqProofs(disch:=try exact al)only[o0,aq,aO,aG,aM,eT h.cu,fA oj b,h.od b,AA _ _ e aD,d];exact aK.2 ⟨rfl,aY,dv,es,by rw[eS,if_pos he];exact h,λ_ _=>rfl,.refl _ _ _ _⟩
 ·have d:(((S.a v|||x:Nat):Int) != ((S.a v:Nat):Int))=true:=bne_iff_ne.2 λq=>he (by exact_mod_cast q)
  have l:=h.dc;have g:S.am[v]? =D (S.a v):=by unfold bI.a;rw[List.getD_eq_getElem?_getD,List.getElem?_eq_getElem ai];rfl
  have st:bA P H 251 (.ptr a v 0) (J .u64 ((S.a v|||x:Nat):Int))=D (H.set a (.row Z 1 (fx (S.am.set v (S.a v|||x))))):=by
   rw[fN (n:=1) ag h.bF (vD g) rfl rfl ai,<-Cn];rfl
  simp-implicitDefEqProofs(disch:=try exact al)only[o0,aq,aO,aG,aM,eT h.cu,fA oj b,h.od b,AA _ _ e aD,d,st];have ae:=h.ZF v (S.a v|||x) (λu=>by
   unfold bI.a;rw[jH ai];split
   ·exact Nat.or_lt_two_pow e aD
   ·exact h.dY u)
  refine bk (E9 ae i b) ?_;rintro _ k ⟨rfl,wk',f,es',ah,j,p⟩;refine⟨p.1,aK.2 ⟨rfl,wk',f,es',by rw[eS,if_neg he];exact ah,j,(Fr.set (c:=0) H ai _).trans p⟩⟩
end
end
section
open Go.bp
def J5(x y u v:Int):gY P 10000 312 (.agg [J X x,J X y]) (.agg [J X u,J X v])=bif x==u then(bif y==v then D C else D Z)else D false:=ag
def J6(p q:Nat×Nat):gY P 10000 312 (gi p).1 (gi q).1=D (decide (p=q)):=by
 refine(J5 p.1 p.2 q.1 q.2).trans ?_;obtain⟨x,y⟩:=p;obtain⟨u,v⟩:=q;simp only[cM];by_cases ae:x=u<;>by_cases ah:y=v
 ·have a:(((x:Nat):Int)==((u:Nat):Int))=true:=by simp[ae]
  have b:(((y:Nat):Int)==((v:Nat):Int))=true:=by simp[ah]
  rw[a,b];simp[ae,ah]
 ·have a:(((x:Nat):Int)==((u:Nat):Int))=true:=by simp[ae]
  have b:(((y:Nat):Int)==((v:Nat):Int))=false:=beq_eq_false_iff_ne.2 λe=>ah (by exact_mod_cast e)
  rw[a,b];simp[ah]
 ·have a:(((x:Nat):Int)==((u:Nat):Int))=false:=beq_eq_false_iff_ne.2 λe=>ae (by exact_mod_cast e)
  rw[a];simp[ae]
 ·have a:(((x:Nat):Int)==((u:Nat):Int))=false:=beq_eq_false_iff_ne.2 λe=>ae (by exact_mod_cast e)
  rw[a];simp[ae]
def yV(p:Nat×Nat):∀(es:List (Nat×Nat)) (i:Nat),(p∉es->ke P 312 (gi p).1 (es.map gi) i=D I)/\(p∈es->∃j,ke P 312 (gi p).1 (es.map gi) i=D (D (j,.agg [])))
 |[],i=>⟨λ_=>rfl,λh=>by simp at h⟩
 |e::es,i=>by
  obtain⟨ae,ah⟩:=yV p es (i+1);simp only[List.map_cons,ke,J6];by_cases he:p=e
  ·rw[decide_eq_true he];exact⟨λh=>absurd (by rw[he];simp) h,λ_=>⟨i,rfl⟩⟩
  ·rw[decide_eq_false he];exact⟨λh=>ae λhm=>h (by simp[hm]),λh=>ah (by simpa [he]using h)⟩
def I4:P.underlying 245=D (.map 312 310):=ag
def P2{H:ad}{K:Nat}{es:List (Nat×Nat)}(g:H.get K=D (.map (es.map gi)))(p:Nat×Nat):hh P H 245 (.map K) (gi p).1 C=D (.tuple [.agg [],.bool (decide (p∈es))]):=by
 obtain⟨d,a,b,a8⟩:∃d,P.underlying 312=D d/\plainKey d=Z/\ma P d (gi p).1=true:=⟨.array 2 3,ag,ag,ag⟩;have c:e1 P 310=D (.agg []):=ag;obtain⟨ae,ah⟩:=yV p es 0;simp only[hh,I4,a,c,b,a8,g];by_cases hm:p∈es
 ·obtain⟨j,e⟩:=ah hm;simp[e,hm]
 ·simp[ae hm,hm]
def abg{H:ad}{K:Nat}{es:List (Nat×Nat)}(g:H.get K=D (.map (es.map gi)))(p:Nat×Nat)(b:p∉es):iN P H 245 (.map K) (gi p).1 (.agg [])=D (H.set K (.map ((es++[p]).map gi))):=by
 obtain⟨d,a,c,a8⟩:∃d,P.underlying 312=D d/\plainKey d=Z/\ma P d (gi p).1=true:=⟨.array 2 3,ag,ag,ag⟩;simp only[iN,I4,a,c,a8,g,(yV p es 0).1 b];simp[gi]
def AL{V o:Nat}(a7:o<V)(dv:Nat->aa)(v:aa):((List.range V).map λk=>[dv k]).set o [v]=(List.range V).map λk=>[dk dv o v k]:=by
 apply List.ext_getElem?;intro i;by_cases a:i<V
 ·by_cases e:i=o
  ·subst e;rw[List.getElem?_set_self (by simpa using a)];simp[a,dk]
  ·rw[List.getElem?_set_ne (Ne.symm e)];simp[a,dk,e]
 ·rw[List.getElem?_eq_none (by simpa using a),List.getElem?_eq_none (by simpa using a)]
section
variable {n V a:Nat}{S:bI}{aY:List Int}{dv:Nat->aa}{es:List (Nat×Nat)}{H:ad}
def v7{S:bI}{x v:Nat}{l:List Nat}(aD:x<S.fh.length):({S with fh:=S.fh.set x l}:bI).g v=if v=x then l else S.g v:=by
 unfold bI.g;exact jH aD
def sC(h:cq n V a S aY dv es H)(E:V<=1000000){x y:Nat}(aD:x<V)(a1:y<V):W (aC P ax 221 [.ptr (a+6) 0 0,J X x,J X y] H) λr H'=>r= .tuple []/\So n V a (gp S x y) (λo=>V<=o/\o<2*V) dv H H':=by
 refine bZ (λ_=>Ul 0) ?_;have Q:c7 P 312 [(0,J X (x:Nat)),(1,J X (y:Nat))]=D (gi (x,y)).1:=CG rfl rfl;have B:=P2 h.fz (x,y);have be:=h.lt;have O:=ay.push H (.row Z 0 [[]]);have ae:=h.aI O;have ao:bA P (H.push (.row Z 0 [[]])) 310 (.ptr H.next 0 0) (.agg [])=D ((H.push (.row Z 0 [[]])).set H.next (.row Z 0 [[]])):=by
  rw[fN (n:=0) ag (ad.bq H (.row Z 0 [[]])) rfl rfl rfl b_];rfl
 by_cases hm:(x,y)∈es
 ·have N:=((h.hL x y).1 hm).2;rw[decide_eq_true hm]at B;simp-implicitDefEqProofs(disch:=try exact al)only[mY,aq,aO,aM,eT h.cu,Q,B,ao,ad.fE];exact aK.2 ⟨rfl,aY,dv,es,by rw[gp,if_pos (.inl N)];exact ae,λ_ _=>rfl,.aI O⟩
 ·rw[decide_eq_false hm]at B;have N:y∉S.g x:=λe=>hm ((h.hL x y).2 ⟨aD,e⟩)
  by_cases M:x=y
  ·have z:(((x:Nat):Int)==((y:Nat):Int))=true:=by simp[M]
   simp-implicitDefEqProofs(disch:=try exact al)only[mY,aq,aO,aG,aM,eT h.cu,Q,B,ao,ad.fE,z];exact aK.2 ⟨rfl,aY,dv,es,by rw[gp,if_pos (.inr M)];exact ae,λ_ _=>rfl,.aI O⟩
  ·have z:(((x:Nat):Int)==((y:Nat):Int))=false:=beq_eq_false_iff_ne.2 λe=>M (by exact_mod_cast e)
   have up:=abg ae.fz (x,y) hm;obtain⟨am,a6⟩:=ae.other (c:=4) ai (.map ((es++[(x,y)]).map gi));have aw:=a6 fK (ae.g x aD);have bf:((H.push (.row Z 0 [[]])).set (a+4) (.map ((es++[(x,y)]).map gi))).next=H.next+1:=by simp
   have Y:=(am (a+6) ai).trans ae.cu;have U:=(am (a+1) ai).trans ae.ez;have aT:((H.push (.row Z 0 [[]])).set (a+4) (.map ((es++[(x,y)]).map gi))).get (a+4)=D (.map ((es++[(x,y)]).map gi)):=ad.dA (by simp;omega);have bd:=h.D_ x;generalize bc:(H.push (.row Z 0 [[]])).set (a+4) (.map ((es++[(x,y)]).map gi))=j at*;obtain⟨d,f,aH,R,aN,bb,aP,ap⟩:=bG.pD (K:=bu) (ok:=bH) (ok':=bH) cU aw ai (ay.refl j) (a:=(y:Int)) (cs:=[J X (y:Nat)]) rfl (λ_ _=>trivial) (by simp[bC];omega);have aL:cS P (j.push (.row Z 1 [[J X (y:Nat)]])) [30,30] (dv x) (.aJ j.next 0 1 1 (D 1))=D (d,f):=aH
   have aF:=ay.push j (.row Z 1 [[J X (y:Nat)]]);have ah:∀k,k<a+7->f.get k=j.get k:=λk s=>aN.2 k s
   have ar:=(ah (a+6) ai).trans Y;have aS:=(ah (a+1) ai).trans U;have aA:=R.aJ.one;have af:=dG aA;have a_:bA P f 30 (.ptr (a+1) x 0) d=D (f.set (a+1) (.row Z 1 ((List.range V).map λk=>[dk dv x d k]))):=by
    rw[fN (n:=1) ag aS (e:=[dv x]) (by simp[aD]) (by rw[af];rfl) (by rw[af];simp[aA]) b_,af,<-AL aD];rfl
   have hle:(j.push (.row Z 1 [[J X (y:Nat)]])).next<=f.next:=by simp;omega
   have a2:aj P j 30 (.ptr (a+1) x 0)=D (dv x):=by rw[fB ag U (e:=[dv x]) (by simp[aD])];rfl
   have a3:aj P (j.push (.row Z 1 [[J X (y:Nat)]])) 30 (.ptr (a+1) x 0)=D (dv x):=by rw[fB ag (aF.get U) (e:=[dv x]) (by simp[aD])];rfl
   have a9:aV (D (dv x)) (dv x)=true:=eA aw.aJ;have a8:∀l i n e c,aV (D (.aJ l i n e c)) (.aJ l i n e c)=true:=λl i n e c=>by simp[aV,aa.beq]
   have D9:=h.aW;have ak:∀k,k<H.next->k≠a+4->k≠a+1->dd (dv x)≠D k->(f.set (a+1) (.row Z 1 ((List.range V).map λk=>[dk dv x d k]))).get k=H.get k:=λk s au ab az=>by
    rw[ad.cW (Ne.symm ab),aP k ai (λL n c e=>by rintro rfl;rw[e]at az;exact az rfl),am k au,O.2 k s]
   have A:∀k,k<a+7->k≠a+4->k≠a+1->(f.set (a+1) (.row Z 1 ((List.range V).map λk=>[dk dv x d k]))).get k=H.get k:=λk s au ab=>ak k ai au ab λe=>by have:=(h.ix (o:=x) ai e).1;omega
   have an:∀o L,o<=2*V->o≠x->dd (dv o)=D L->(f.set (a+1) (.row Z 1 ((List.range V).map λk=>[dk dv x d k]))).get L=H.get L:=λo L a7 aZ e=>by
    have az:=h.ix a7 e;exact ak L az.2 ai ai λT=>aZ (h.fc _ _ L a7 ai e T)
   have bg:=ad.b6 ar;have a5:∀L,dd d=D L->dd (dv x)=D L\/∀fj,fj<=2*V->dd (dv fj)≠D L:=by
    intro L e;rcases ap with t|⟨a4,t⟩
    ·exact .inl (t▸e)
    ·rw[t]at e;cases e;exact .inr λfj a0 T=>by have:=(h.ix a0 T).2;omega
   have au:cq n V a {S with fh:=S.fh.set x (S.g x++[y])} aY (dk dv x d) (es++[(x,y)]) (f.set (a+1) (.row Z 1 ((List.range V).map λk=>[dk dv x d k]))):=
    {
     cu:=by rw[A _ ai ai ai,IH _ _ _ _ _ ai];exact h.cu
     bF:=by rw[A _ ai ai ai];exact h.bF
     ez:=ad.dA ai
     gq:=by rw[A _ ai ai ai,w9 (dv:=λv=>dv (V+v)) (λv G=>d_ _ _ ai)];exact h.gq
     fJ:=by rw[A _ ai ai ai];exact h.fJ
     fz:=by rw[ad.cW ai,ah _ ai];exact aT
     gg:=by rw[A _ ai ai ai];exact h.gg
     dc:=h.dc,aW:=by simpa using h.aW,fC:=h.fC,ls:=h.ls,lw:=h.lw
     g:=λv G=>by
      rw[v7 ai];by_cases e:v=x
      ·subst e;rw[if_pos rfl,fI];have aR:bC (S.g v++[y])=bC (S.g v)++[(y:Int)]:=by simp[bC]
       rw[aR];exact R.frame fK λL u=>by
        rw[ad.cW];have:=(R.hr u).1;omega
      ·rw[if_neg e,d_ _ _ e];exact(h.g v G).frame fK λL u=>an v L ai e u
     q:=λv G=>by
      rw[d_ _ _ ai];exact(h.q v G).frame me λL u=>an (V+v) L ai ai u
     w:=by rw[d_ _ _ ai];exact h.w.frame fK λL u=>an (2*V) L (b4 _) ai u
     wn:=by rw[d_ _ _ ai];exact h.wn
     fc:=zk h.fc ai a5
     perm:=h.perm
     hL:=λp q=>by
      rw[v7 ai,List.mem_append,h.hL];by_cases e:p=x
      ·subst e;simp[aD]
      ·simp[e]
     hJ:=λv=>by
      rw[v7 ai];split
      ·rw[List.nodup_append];exact⟨h.hJ x,by simp,λa av b E=>by simp at E;subst E;rintro rfl;exact N av⟩
      ·exact h.hJ v
     hp:=λv b m=>by
      rw[v7 ai]at m;split at m
      ·rcases List.mem_append.1 m with m|m
       ·exact h.hp x b m
       ·simp at m;omega
      ·exact h.hp v b m
     hD:=h.hD,hC:=h.hC,wt:=h.wt,dY:=h.dY}
   have aU:=au.cu;simp-implicitDefEqProofs(disch:=try exact al)only[mY,aq,aO,aG,aM,eT h.cu,eT ae.cu,Q,B,ao,ad.fE,z,up,eT Y,eT (aF.get Y),eT ar,fA f_ aD,a2,a3,eW,aL,a_,a9,a8,eT aU,fA oj aD,au.od aD];refine bk (zK au E a1 (h.dY x) (h.dY y)) ?_;rintro _ ba ⟨rfl,wk',aQ,es',aX,s,aE⟩;have f4:Fr V a dv (dk dv x d) H (f.set (a+1) (.row Z 1 ((List.range V).map λk=>[dk dv x d k]))):=by
    refine⟨by simp;omega,λk s av az=>⟨ak k s ai ai (az x ai),λo a7 e=> ?_⟩⟩;by_cases z:o=x
    ·subst z;rw[fI]at e;rcases ap with t|⟨a4,t⟩
     ·exact az o a7 (t▸e)
     ·rw[t]at e;cases e;omega
    ·rw[d_ _ _ z]at e;exact az o a7 e
   refine⟨aE.1,aK.2 ⟨rfl,wk',aQ,es',?_,λo a7=>by rw[s o a7.2];exact d_ _ _ ai,f4.trans aE⟩⟩;rw[gp,if_neg (λe=>e.elim N M)];exact aX
