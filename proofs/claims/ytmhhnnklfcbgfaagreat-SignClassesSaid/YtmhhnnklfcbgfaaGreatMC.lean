/-
  Texts of one proof, laid together: Hv12 Hv13 Hv14 Hv15 Hv16.
-/
import Derived.Test.YtmhhnnklfcbgfaaGreatMB
set_option linter.unusedVariables false
set_option linter.unusedSimpArgs false
set_option linter.defProp false
open Option renaming some→A,none→Z
open Bool renaming true→J,false→I
namespace Go.cw
section
variable {P:Program}{ρ:Env}{H:ae}{w:World}{R:bf}{a:Act}
def kO(ρ:Env)(w:World)(loc:Loc):bz->Prop
 | .row ro esz els=>gJ ρ w loc ro esz els
 | .map es=>DB ρ w loc es
 | .dZ t esz els=>oR ρ w loc t esz els
 | .dead=>True
 | .old _ _ _=>True
theorem kO.frame{k:Env}{g:World}{loc:Loc}{b:bz}(h:kO ρ w loc b)(hle:ρ.le k)(m:g.heap[loc.block]? =w.heap[loc.block]?):kO k g loc b:=by
 cases b with
 |row ro esz els=>
  obtain⟨d,c,t,l,f,a,o⟩:=h;refine⟨d,c,t,l,al,a,λi e he=> ?_⟩;obtain⟨p,q⟩:=o i e he;refine⟨p,λj v n=> ?_⟩;obtain⟨r,x,s,u⟩:=q j v n;exact⟨r,x,s,u.mono hle⟩
 |map es=>
  obtain⟨ents,clock,d,f,a⟩:=h;exact⟨ents,clock,al,f.mono hle,a.mono hle⟩
 |dZ t esz els=>exact oR.frame h hle m
 |dead=>trivial
 |old=>trivial
theorem kO.lt{loc:Loc}{b:bz}(h:kO ρ w loc b)(a:b.iA=J):loc.block<w.heap.size:=by
 cases b with
 |row ro esz els=>obtain⟨_,c,t,d,f,_⟩:=h;grind
 |map es=>obtain⟨ents,clock,e,_⟩:=h;grind
 |dZ t esz els=>exact h.1.lt
 |dead=>cases a
 |old=>cases a
theorem Rel.grow{n:Env}{m:World}(h:Rel ρ H w)(hle:ρ.le n)(v:w.heap.size<=m.heap.size)(i:∀b,b<w.heap.size->m.heap[b]? =w.heap[b]?):Rel n H m:=by
 refine⟨λl ro esz els e=> ?_,λl es e=> ?_,λl t esz els e=> ?_,λl y loc f ah ai u p q=> ?_,λl s esz els e=>(h.old l s esz els e).step hle v (λb r _=>i b r) ?_⟩
 rotate_left 4
 ·rintro b ⟨k,loc,bV,b9,x⟩;left;have d:∃f,ρ k=A f:=by
   rcases bV with⟨esz,els,d⟩|⟨es,d⟩|⟨t,esz,els,d⟩
   ·obtain⟨f,a,_⟩:=h.row _ _ _ _ d;grind
   ·obtain⟨f,a,_⟩:=h.map _ _ d;grind
   ·obtain⟨f,a,_⟩:=h.dZ _ _ _ _ d;grind
  obtain⟨f,a⟩:=d;obtain rfl:f=loc:=Option.some.inj ((hle _ _ a).symm.trans b9);exact⟨k,f,bV,a,x⟩
 ·obtain⟨loc,a,g⟩:=h.row l ro esz els e;refine⟨loc,hle _ _ a,?_⟩;have:=g;obtain⟨_,c,t,z,j,_⟩:=this;exact kO.frame (b:= .row ro esz els) g hle (i _ (zi j))
 ·obtain⟨loc,a,g⟩:=h.map l es e;refine⟨loc,hle _ _ a,?_⟩;have:=g;obtain⟨_,_,j,_⟩:=this;exact kO.frame (b:= .map es) g hle (i _ (zi j))
 ·obtain⟨loc,a,g⟩:=h.dZ l t esz els e;exact⟨loc,hle _ _ a,g.frame hle (i _ g.1.lt)⟩
 ·have o:∀k loc,H.live k->n k=A loc->ρ k=A loc:=λk loc d e=>by
   rcases d with⟨ro,esz,els,d⟩|⟨es,d⟩|⟨t,esz,els,d⟩
   ·obtain⟨f,a,_⟩:=h.row _ _ _ _ d;rw[hle _ _ a]at e;grind
   ·obtain⟨f,a,_⟩:=h.map _ _ d;rw[hle _ _ a]at e;grind
   ·obtain⟨f,a,_⟩:=h.dZ _ _ _ _ d;rw[hle _ _ a]at e;grind
  exact h.apart l y loc f ah ai u (o _ _ ah.live p) (o _ _ ai q)
theorem Rel.Fb(h:Rel ρ H w){l:Nat}(aw:H.live l):∃loc,ρ l=A loc/\loc.block<w.heap.size:=by
 rcases aw with⟨ro,esz,els,a⟩|⟨es,a⟩|⟨t,esz,els,a⟩
 ·obtain⟨loc,b,_,c,t,f,e,_⟩:=h.row _ _ _ _ a;grind
 ·obtain⟨loc,b,_,_,e,_⟩:=h.map _ _ a;grind
 ·obtain⟨loc,b,d⟩:=h.dZ _ _ _ _ a;exact⟨loc,b,d.1.lt⟩
theorem T3{o:Oper}{l:Nat}{v:af}{b:bz}(h:ly P o.op R l=A (v,b))(ar:eT ρ R a)(aC:ρ l=Z)(w:World):
  ∃x d e loc,(execOp a.eval o).run P w= .ok (.value x) d/\bA e v x/\ρ.le e/\(∀k,k≠l->e k=ρ k)/\e l=A loc/\w.heap.size<=loc.block/\b.iA=J/\kO e d loc b/\
   d.os=w.os/\d.tape=w.tape/\d.output=w.output/\w.heap.size<=d.heap.size/\∀k,k<w.heap.size->d.heap[k]? =w.heap[k]? :=by
 unfold ly gS at h;split at h
 ·rename_i B H' q;split at h
  ·rename_i aL;split at h
   ·rename_i b' f;split at h
    ·rename_i g;simp only[bD,eF]at h;obtain⟨rfl,rfl⟩:=h;obtain⟨x,d,e,n,p,c⟩:=TZ (Rel.empty ρ w l) aC q ar;have j:∀k,¬eX ρ ⟨.leaf,l⟩ k:=by
      rintro k ⟨y,loc,ah,_,_⟩;have s:(⟨.leaf,l⟩:ae).get y=none:=by grind[ae.get,bK.sD]
      rcases ah with⟨_,_,h⟩|⟨_,h⟩|⟨_,_,_,h⟩<;>(rw[s]at h;cases h)
     have u:H'.rw l:=by
      cases b' with
      |row ro esz els=>cases ro with
       |true=>cases g
       |false=>exact .inl ⟨_,_,f⟩
      |map es=>exact .inr (.inl ⟨_,f⟩)
      |dZ t esz els=>exact .inr (.inr ⟨_,_,_,f⟩)
      |dead=>cases g
      |old=>cases g
     have r:∃loc,e l=A loc/\kO e d loc b':=by
      cases b' with
      |row ro esz els=>exact c.rel.row _ _ _ _ f
      |map es=>exact c.rel.map _ _ f
      |dZ t esz els=>exact c.rel.dZ _ _ _ _ f
      |dead=>cases g
      |old=>cases g
     obtain⟨loc,m,z⟩:=r;refine⟨x,d,e,loc,n,p,c.le,λk i=>c.keep k ?_,m,?_,g,z,c.os,c.tape,c.output,c.size,λk i=>c.frame k i (j k)⟩
     ·grind
     ·exact(c.own loc.block ⟨l,loc,u,m,rfl⟩).resolve_left (j _)
    grind
   grind
  grind
 grind
structure gE(ρ0:Env)(H0:ae)(w0:World)(N:Nat)(jZ:Nat->Option bz)(ρ:Env)(H:ae)(w:World):Prop where
 vh:Rel ρ0 H0 w0
 le:ρ0.le ρ
 next:H0.next<=H.next
 keep:∀l,l<H0.next\/N<=l->ρ l=ρ0 l
 rel:Rel ρ H w
 os:w.os=w0.os
 tape:w.tape=w0.tape
 output:w.output=w0.output
 size:w0.heap.size<=w.heap.size
 frame:∀b,b<w0.heap.size->¬eX ρ0 H0 b->w.heap[b]? =w0.heap[b]?
 own:∀b,eX ρ H b->eX ρ0 H0 b\/w0.heap.size<=b
 ro:∀l esz els,H.get l=some (.row true esz els)->H0.get l=some (.row true esz els)
 olds:yw ρ0 H0 w0 ρ H
 u6:∀k s esz els loc l b a,H.get k=some (.old s esz els)->ρ k=some loc->jZ l=some b->ρ l=some a->loc.block≠a.block
 fresh:∀l,H.next<=l->l<N->jZ l=none->ρ l=none
 kE:∀l b,jZ l=some b->H.next<=l/\l<N/\b.iA=true/\∃loc,ρ l=some loc/\kO ρ w loc b/\w0.heap.size<=loc.block/\¬eX ρ H loc.block
 sep:∀l c b b' loc a,jZ l=some b->jZ c=some b'->l≠c->ρ l=some loc->ρ c=some a->loc.block≠a.block
variable {ρ0:Env}{H0:ae}{w0:World}{N:Nat}{jZ:Nat->Option bz}
theorem gE.start(h:Rel ρ0 H0 w0)(aC:I5 ρ0 H0.next N):gE ρ0 H0 w0 N (λ_=>Z) ρ0 H0 w0:=
 ⟨h,ρ0.le_refl,ad,λ_ _=>rfl,h,rfl,rfl,rfl,ad,λ_ _ _=>rfl,λ_ h=> .inl h,λ_ _ _ h=>h,.same λ_ _ _ _ h=>h,al,λl a b _=>aC l a b,λ_ _ h=>al,al⟩
def gE.done(m:gE ρ0 H0 w0 N jZ ρ H w)(a:H.next=N):Step ρ0 H0 w0 ρ H w:=
 ⟨m.le,m.next,λl aw=>m.keep l ad,m.rel,m.os,m.tape,m.output,m.size,m.frame,m.own,m.ro,m.olds⟩
theorem gE.step{K:Env}{H':ae}{G:World}(m:gE ρ0 H0 w0 N jZ ρ H w)(s:Step ρ H w K H' G)(M:H'.next<=N)(Q:∀l b,jZ l=A b->H'.next<=l):gE ρ0 H0 w0 N jZ K H' G where
 vh:=m.vh
 le:=Env.le_trans m.le s.le
 next:=Nat.le_trans m.next s.next
 keep:=λl aw=>(s.keep l (aw.imp (λh=>Nat.lt_of_lt_of_le h m.next) (λh=>Nat.le_trans M h))).trans (m.keep l aw)
 rel:=s.rel
 os:=s.os.trans m.os
 tape:=s.tape.trans m.tape
 output:=s.output.trans m.output
 size:=Nat.le_trans m.size s.size
 frame:=λb n aL=>by
  rw[s.frame b (Nat.lt_of_lt_of_le n m.size) (λaZ=>(m.own b aZ).elim aL (λhle=>ad)),m.frame b n aL]
 own:=λb n=>(s.own b n).elim (λaZ=>m.own b aZ) (λhle=> .inr (Nat.le_trans m.size hle))
 ro:=λl esz els e=>m.ro l esz els (s.ro l esz els e)
 olds:=λl u esz els e=>by
  rcases s.olds l u esz els e with⟨s1,t,r,f⟩|⟨loc,f,i⟩
  ·exact(m.olds l s1 t r f).imp id λ⟨loc,i,j⟩=>⟨loc,s.le _ _ i,j⟩
  ·exact .inr ⟨loc,f,i.elim (λj=>m.own _ j) λj=> .inr (Nat.le_trans m.size j)⟩
 u6:=λk u esz els loc l b x e f h i=>by
  obtain⟨_,_,o,z,d,p,_,B⟩:=m.kE l b h;obtain rfl:z=x:=Option.some.inj ((s.le _ _ d).symm.trans i);rcases s.olds k u esz els e with⟨s1,t,r,q⟩|⟨y,q,g⟩
  ·obtain⟨R,g,_⟩:=m.rel.old _ _ _ _ q;obtain rfl:R=loc:=Option.some.inj ((s.le _ _ g).symm.trans f);exact m.u6 k s1 t r _ l b _ q g h d
  ·obtain rfl:y=loc:=Option.some.inj (q.symm.trans f);rcases g with g|g
   ·grind
   ·have:=p.lt o;omega
 fresh:=λl a b c=>by rw[s.keep l (.inr a)];exact m.fresh l (Nat.le_trans s.next a) b c
 kE:=λl b h=>by
  obtain⟨U,S,o,loc,d,p,T,B⟩:=m.kE l b h;have O:=p.lt o;refine⟨Q l b h,S,o,loc,s.le _ _ d,p.frame s.le (s.frame _ O B),T,λaZ=> ?_⟩;rcases s.own _ aZ with h|h
  ·grind
  omega
 sep:=λl v b b' loc x h cu P e L=>by
  obtain⟨_,_,_,y,d,_⟩:=m.kE l b h;obtain⟨_,_,_,z,E,_⟩:=m.kE v b' cu;have ah:=s.le _ _ d;rw[e]at ah;cases ah;have ai:=s.le _ _ E;rw[L]at ai;cases ai;exact m.sep l v b b' _ _ h cu P d E
theorem gE.early{g:Env}{f:World}{l:Nat}{b:bz}{loc:Loc}(m:gE ρ0 H0 w0 N jZ ρ H w)(aw:H.next<=l)(U:l<N)(am:jZ l=Z)
  (hle:ρ.le g) (q:∀k,k≠l->g k=ρ k) (y:g l=A loc) (W:w.heap.size<=loc.block) (ad:b.iA=J) (V:kO g f loc b) (aa:f.os=w.os) (ae:f.tape=w.tape) (ab:f.output=w.output)
  (G:w.heap.size<=f.heap.size) (x:∀k,k<w.heap.size->f.heap[k]? =w.heap[k]?):gE ρ0 H0 w0 N (λk=>if k=l then A b else jZ k) g H f:=by
 have hold:∀k c,H.live k->g k=A c->ρ k=A c:=λk c q e=>by
  obtain⟨t,u,_⟩:=m.rel.Fb q;have:=hle _ _ u;grind
 have E:∀k,eX g H k->eX ρ H k:=by
  rintro k ⟨K,c,ah,ai,ax⟩;exact⟨K,c,ah,hold _ _ ah.live ai,ax⟩
 have ak:∀k,eX ρ H k->k<w.heap.size:=by
  rintro k ⟨K,c,ah,ai,ax⟩;obtain⟨t,u,P⟩:=m.rel.Fb ah.live;grind
 refine⟨m.vh,Env.le_trans m.le hle,m.next,λk h=> ?_,m.rel.grow hle G x,aa.trans m.os,ae.trans m.tape,ab.trans m.output,Nat.le_trans m.size G,λk ah ai=> ?_,
  λk h=>m.own k (E k h),m.ro,λk s esz els e=>(m.olds k s esz els e).imp id λ⟨loc,B,T⟩=>⟨loc,hle _ _ B,T⟩,λk s esz els t z i L e S h B=> ?_,λk ah ai ax=> ?_,λk b' h=> ?_,λk o i v t L h cu Y e p=> ?_⟩
 ·rw[q k (by have:=m.next;omega)];exact m.keep k h
 ·rw[x k (Nat.lt_of_lt_of_le ah m.size)];exact m.frame k ah ai
 ·obtain⟨M,Q,an,_⟩:=m.rel.old _ _ _ _ e;obtain rfl:M=t:=Option.some.inj ((hle _ _ Q).symm.trans S);by_cases a:z=l
  ·grind
  ·simp only[a,if_false]at h;obtain⟨_,_,_,O,d,_⟩:=m.kE z i h;obtain rfl:O=L:=al;exact m.u6 k s esz els _ z i _ e Q h d
 ·by_cases a:k=l
  ·grind
  ·simp only[a,if_false]at ax;rw[q k a];exact m.fresh k ah ai ax
 ·by_cases a:k=l
  ·subst a;simp only[if_true,bD]at h;subst h;exact⟨aw,U,ad,loc,y,V,Nat.le_trans m.size W,al⟩
  ·simp only[a,if_false]at h;obtain⟨u,P,j,c,d,n,af,aj⟩:=m.kE k b' h;exact⟨u,P,j,c,hle _ _ d,n.frame hle (x _ (n.lt j)),af,λaZ=>aj (E _ aZ)⟩
 ·by_cases a:k=l
  ·by_cases r:o=l
   ·omega
   ·subst a;simp only[r,if_false]at cu;obtain⟨_,_,j,c,d,n,_,_⟩:=m.kE o v cu;have:=hle _ _ d;rw[p]at this;cases this;rw[y]at e;cases e;have:=n.lt j;omega
  ·by_cases r:o=l
   ·subst r;simp only[a,if_false]at h;obtain⟨_,_,j,c,d,n,_,_⟩:=m.kE k i h;have:=hle _ _ d;rw[e]at this;cases this;rw[y]at p;cases p;have:=n.lt j;omega
   ·simp only[a,if_false]at h;simp only[r,if_false]at cu;obtain⟨_,_,_,M,d,_⟩:=m.kE k i h;obtain⟨_,_,_,O,R,_⟩:=m.kE o v cu;have ah:=hle _ _ d;rw[e]at ah;cases ah;have ai:=hle _ _ R;rw[p]at ai;cases ai;exact m.sep k o i v _ _ h cu Y d R
theorem gE.tT{b:bz}(m:gE ρ0 H0 w0 N jZ ρ H w)(z:jZ H.next=A b):gE ρ0 H0 w0 N (λk=>if k=H.next then Z else jZ k) ρ (H.push b) w:=by
 obtain⟨_,Y,o,loc,f,B,ab,U⟩:=m.kE _ _ z;have G:∀k,(H.push b).rw k->k≠H.next->H.rw k:=(by grind[ae.rw,ae.eW])
 have T:∀k,(H.push b).live k->k≠H.next->H.live k:=(by grind[ae.live,ae.eW])
 have R:∀k a,H.live k->ρ k=A a->a.block≠loc.block:=by
  intro k a d e heq;by_cases ar:H.rw k
  ·exact U ⟨k,a,ar,e,heq⟩
  ·rcases d with⟨ro,esz,els,d⟩|d
   ·cases ro with
    |false=>exact ar (.inl ⟨_,_,d⟩)
    |true=>
     have Q:=m.ro _ _ _ d;obtain⟨aa,j,q⟩:=m.vh.Fb (.inl ⟨_,_,_,Q⟩);have:=m.le _ _ j;grind
   ·exact ar (.inr d)
 have y:∀k,eX ρ (H.push b) k->eX ρ H k\/k=loc.block:=by
  rintro k ⟨c,a,ah,ai,ax⟩;by_cases aw:c=H.next
  ·grind
  ·exact .inl ⟨c,a,G _ ah aw,ai,ax⟩
 have S:b.qN=false:=by cases b<;>first|rfl|cases o
 refine⟨m.vh,m.le,by have:=m.next;simp;omega,m.keep,⟨λl ro esz els h=> ?_,λl es h=> ?_,λl t esz els h=> ?_,λl c i p h cu x e g=> ?_,λl s esz els h=> ?_⟩,m.os,m.tape,m.output,m.size,m.frame,
  λk h=> ?_,λl esz els h=>m.ro l esz els (ae.F8 (bz.iA.ro o) l esz els h),λk s esz els e=>m.olds k s esz els (by grind[ae.qZ]),λk s esz els i K v p e O h P=> ?_,λl ah ai ax=> ?_,λl b' h=> ?_,λl c v L i p h cu x e g=> ?_⟩
 ·by_cases aw:l=H.next
  ·subst aw;rw[ae.a2]at h;simp only[bD]at h;subst h;exact⟨loc,f,B⟩
  ·rw[ae.eW aw]at h;exact m.rel.row _ _ _ _ h
 ·by_cases aw:l=H.next
  ·subst aw;rw[ae.a2]at h;simp only[bD]at h;subst h;exact⟨loc,f,B⟩
  ·rw[ae.eW aw]at h;exact m.rel.map _ _ h
 ·by_cases aw:l=H.next
  ·subst aw;rw[ae.a2]at h;simp only[bD]at h;subst h;exact⟨loc,f,B⟩
  ·rw[ae.eW aw]at h;exact m.rel.dZ _ _ _ _ h
 ·by_cases aw:l=H.next
  ·grind
  ·by_cases n:c=H.next
   ·subst n;rw[f]at g;cases g;exact R l i (G _ h aw).live e
   ·exact m.rel.apart l c i p (G _ h aw) (T _ cu n) x e g
 ·by_cases aw:l=H.next
  ·subst aw;rw[ae.a2]at h;rw[Option.some.inj h]at o;cases o
  ·rw[ae.eW aw]at h;obtain⟨a,j,V,q⟩:=m.rel.old _ _ _ _ h;refine⟨a,j,V,q.imp id λE=>⟨E.1,λr=> ?_⟩⟩;rcases y _ r with u|u
   ·grind
   ·exact m.u6 l s esz els _ _ _ _ h j z f u
 ·rcases y k h with h|rfl
  ·exact m.own k h
  omega
 ·have M:=ae.qZ S _ _ _ _ e;by_cases aw:K=H.next
  ·grind
  ·simp only[aw,if_false]at h;exact m.u6 k s esz els _ K v _ M O h P
 ·simp only[ae.fR]at ah;have aw:l≠H.next:=ad
  simp only[aw,if_false]at ax;exact m.fresh l ad ai ax
 ·by_cases aw:l=H.next
  ·grind
  ·simp only[aw,if_false]at h;obtain⟨j,q,E,a,r,u,W,af⟩:=m.kE l b' h;refine⟨by simp;omega,q,E,a,r,u,W,λaZ=> ?_⟩;rcases y _ aZ with cu|cu
   ·grind
   ·exact m.sep l H.next b' b a loc h z aw r f cu
 ·by_cases aw:l=H.next
  ·grind
  ·by_cases n:c=H.next
   ·grind
   ·simp only[aw,if_false]at h;simp only[n,if_false]at cu;exact m.sep l c v L i p h cu x e g
end
def nd(P:Program)(H:ae)(r:af)(name:String):Option (Nat×af):=
 match r with
 | .iface t v=>(match P.info? t with
  |some i=>(match i.methods.find? (·.name==name)with
   |some m=>(match m.path.toList,m.func,P.underlying t with
    |[],A (f,J),A (.pointer _)=>A (f,v)
    |[],A (f,I),A (.pointer e)=>(match v with
     | .ptr .. =>(aI P H e v).bind λu=>A (f,u)
     |_=>Z)
    |_,_,_=>Z)
   |none=>Z)
  |none=>Z)
 |_=>Z
def Qb{P:Program}{w:World}{n:Nat}{t:TypeId}{v:Value}{name:String}{i:TypeInfo}{m:Method}{f:FuncId}{b:Bool}(aP:P.info? t=A i)(hm:i.methods.find? (·.name==name)=A m)(a:m.path.toList=[])(aC:m.func=A (f,b)){x:Value}
  (aE:(receiverAt t (.val v) b (A ((name.splitOn ".").getLastD name))).run P w= .ok x w):(method (n+1) t v name).run P w= .ok (f,x) w:=by
 have c:m.path.isEmpty=true:=fA a;have d:(typeInfo t).run P w= .ok i w:=by simp[typeInfo,aP]
 unfold method;simp only[Sem.run_bind,d,Result.andThen_ok,hm,a,follow,Sem.run_pure,aC,c,if_true,aE]
def TV{P:Program}{ρ:Env}{H:ae}{w:World}(q:Rel ρ H w){r u:af}{df:Value}{name:String}{f:Nat}(h:nd P H r name=A (f,u))(ar:bA ρ r df)(args:Array Value):
  ∃k,bA ρ u k/\(callMethod df name args).run P w=(callFunc f (#[k]++args)).run P w:=by
 unfold nd at h;split at h
 ·rename_i t v;cases ar with|iface _ _ n b=>
  split at h
  ·rename_i i aP;split at h
   ·rename_i m hm;have d:P.types.size+Made.depth=(P.types.size+99)+1:=rfl;split at h
    ·rename_i a aC hu;simp only[bD,eF]at h;obtain⟨rfl,rfl⟩:=h;refine⟨n,b,?_⟩;simp only[callMethod,Sem.run_bind,run_program,Result.andThen_ok,d];rw[Qb (x:=n) aP hm a aC (by simp only[receiverAt,Sem.run_bind,run_underlying hu,Result.andThen_ok,Place.get,Sem.run_pure])];rfl
    ·rename_i e a aC hu;split at h
     ·rename_i l j c;simp only[eV,bD,eF]at h;obtain⟨z,ah,rfl,rfl⟩:=h;obtain⟨x,y,o⟩:=DO q ah b;cases b with|ptr _ _ _ loc aw=>
      refine⟨x,o,?_⟩;have p:(loadVar e ⟨loc.block,loc.off+j*loc.esz+c,Z⟩).run P w= .ok x w:=by grind[Instr.loadAt,Instr.sureAddr]
      have s:∀g:String,(Builtin.ssaWrapNilChk_ #[t] t #[.pointer (A ⟨loc.block,loc.off+j*loc.esz+c,Z⟩),strVal "",strVal g]).run P w= .ok (.pointer (A ⟨loc.block,loc.off+j*loc.esz+c,Z⟩)) w:=λg=>rfl
      simp only[callMethod,Sem.run_bind,run_program,Result.andThen_ok,d];rw[Qb (x:=x) aP hm a aC (by simp only[receiverAt,Sem.run_bind,run_underlying hu,Result.andThen_ok,Place.get,Sem.run_pure,s,asAddr,p])];rfl
     grind
    grind
   grind
  grind
 grind
def nU(P:Program)(H:ae)(R:bf)(c:Call):Option (Nat×List af):=
 match c.callee with
 | .value f=>match cp R f with
  |some (.func (.func g) first captured)=>match iU R c.args.toList with
   |some ak=>A (g,first++ak++captured)
   |none=>Z
  |_=>Z
 | .invoke r name=>match cp R r with
  |some v=>match nd P H v name,iU R c.args.toList with
   |some (g,u),A ak=>A (g,u::ak)
   |_,_=>Z
  |none=>Z
 |_=>Z
inductive K where
 |skip
 |pure (v:af)
 |read (v:af)
 |new (v:af) (b:bz)
 |cR (v:af) (H:ae)
def K.val:K->af
 | .skip=> .tuple []
 | .pure v=>v
 | .read v=>v
 | .new v _=>v
 | .cR v _=>v
def K.heap(H:ae):K->ae
 | .new _ b=>H.push b
 | .cR _ H'=>H'
 |_=>H
def K.fF:K->Bool
 | .new _ _=>J
 | .cR _ _=>J
 |_=>I
abbrev aq:=Nat->List af->ae->Option (af×ae)
def nk:Option af->Option K
 |some v=>A (.pure v)
 |none=>Z
def lN:Option af->Option K
 |some v=>A (.read v)
 |none=>Z
def uR:Option (af×bz)->Option K
 |some (v,b)=>A (.new v b)
 |none=>Z
def kA(H:ae):Option (af×ae)->Option K
 |some (v,H')=>if H.next<=H'.next then A (.cR v H')else Z
 |none=>Z
inductive dg where
 |pure|read|both|new|write|call
def cls:Op->dg
 | .load .. => .read
 | .lookup .. => .read
 | .alloc _=> .new
 | .box .. => .new
 | .buildSlice .. => .new
 | .makeMap .. => .new
 | .makeSlice .. => .new
 | .store .. => .write
 | .mapUpdate .. => .write
 | .insert .. => .write
 | .convert .. => .both
 | .call c=>match c.callee with
  | .builtin .append=> .write
  | .builtin .clear=> .write
  | .builtin _=> .both
  |_=> .call
 |_=> .pure
def hU(P:Program)(call:aq)(o:Op)(R:bf)(H:ae):Option K:=
 match cls o with
 | .pure=>nk (jJ P o R)
 | .read=>lN (iw P o R H)
 | .both=>match jJ P o R with
  |some v=>A (.pure v)
  |none=>lN (iw P o R H)
 | .new=>uR (ly P o R H.next)
 | .write=>kA H (me P o R H)
 | .call=>match o with
  | .call c=>match nU P H R c with
   |some (g,ak)=>kA H (call g ak H)
   |none=>Z
  |_=>Z
theorem ah7{P:Program}{call:aq}{o:Op}{R:bf}{H:ae}{v:af}{b:bz}(h:hU P call o R H=A (.new v b)):b.iA=true:=by
 unfold hU at h;split at h
 ·cases ar:jJ P o R<;>rw[ar]at h<;>simp[nk]at h
 ·cases ar:iw P o R H<;>rw[ar]at h<;>simp[lN]at h
 ·split at h
  ·cases h
  ·cases ar:iw P o R H<;>rw[ar]at h<;>simp[lN]at h
 ·unfold uR at h;split at h
  ·rename_i aL;cases h;exact abV aL
  grind
 ·unfold kA at h;grind
 ·split at h
  ·split at h
   ·unfold kA at h;grind
   grind
  grind
def qJ(o:Op):Bool:=match cls o with
 | .new=>J
 | .write=>J
 | .call=>J
 |_=>I
theorem ah3{P:Program}{call:aq}{o:Op}{R:bf}{H:ae}{k:K}(h:hU P call o R H=A k)(a:k.fF=J):qJ o=true:=by
 unfold hU at h;unfold qJ;split at h
 ·unfold nk at h;split at h
  ·simp only[bD]at h;subst h;cases a
  grind
 ·unfold lN at h;split at h
  ·simp only[bD]at h;subst h;cases a
  grind
 ·split at h
  ·simp only[bD]at h;subst h;cases a
  ·unfold lN at h;split at h
   ·simp only[bD]at h;subst h;cases a
   grind
 ·grind
 ·grind
 grind
def nP(P:Program)(call:aq)(o:Op)(R:bf)(H:ae):K->Prop
 | .skip=>False
 | .pure v=>jJ P o R=A v
 | .read v=>iw P o R H=A v
 | .new v b=>ly P o R H.next=A (v,b)
 | .cR v H'=>H.next<=H'.next/\(me P o R H=A (v,H')\/∃c g ak,o= .call c/\nU P H R c=A (g,ak)/\call g ak H=A (v,H'))
theorem ah5{P:Program}{call:aq}{o:Op}{R:bf}{H:ae}{k:K}(h:hU P call o R H=A k):nP P call o R H k:=by
 unfold hU at h;split at h
 ·unfold nk at h;split at h
  ·rename_i v a;simp only[bD]at h;subst h;exact a
  grind
 ·unfold lN at h;split at h
  ·rename_i v a;simp only[bD]at h;subst h;exact a
  grind
 ·split at h
  ·rename_i v a;simp only[bD]at h;subst h;exact a
  ·unfold lN at h;split at h
   ·rename_i v a;simp only[bD]at h;subst h;exact a
   grind
 ·unfold uR at h;split at h
  ·rename_i v b a;simp only[bD]at h;subst h;exact a
  grind
 ·unfold kA at h;split at h
  ·rename_i v H' a;split at h
   ·rename_i aL;simp only[bD]at h;subst h;exact⟨aL,.inl a⟩
   grind
  grind
 ·split at h
  ·rename_i c _;split at h
   ·rename_i g ak aA;unfold kA at h;split at h
    ·rename_i v H' a;split at h
     ·rename_i aL;simp only[bD]at h;subst h;exact⟨aL,al⟩
     grind
    grind
   grind
  grind
section congr
variable {P:Program}{R bl:bf}
theorem sg:∀{xs:List Operand},(∀x∈xs,cp R x=cp bl x)->iU R xs=iU bl xs
 |[],_=>rfl
 |x::xs,h=>by
  simp only[iU,h x aX,sg (xs:=xs) λy a=>h y al]
theorem DU:∀{xs:List (Nat×Operand)},(∀x∈xs.map (·.2),cp R x=cp bl x)->kW R xs=kW bl xs
 |[],_=>rfl
 |(i,x)::xs,h=>by
  simp only[kW,h x aX,DU (xs:=xs) al]
theorem D1{x:Option Operand}(h:∀y,x=A y->cp R y=cp bl y):mc R x=mc bl x:=by
 cases x with
 |none=>rfl
 |some x=>grind[mc]
theorem Uf{o:Op}(h:∀x∈o.operands,cp R x=cp bl x):jJ P o R=jJ P o bl:=by
 cases o<;>simp only[jJ,Op.operands]at h ⊢ <;>first
  |rfl
  |(simp at h;simp[h];done)
  |skip
 ·grind[DU]
 ·grind[sg]
 ·rename_i t x gl aP b;rw[h x aX,D1 (x:=gl) λy a=>h y al,D1 (x:=aP) λy a=>h y al,D1 (x:=b) λy a=>h y al]
 grind[Call.operands,sg]
theorem JE{o:Op}{H:ae}(h:∀x∈o.operands,cp R x=cp bl x):iw P o R H=iw P o bl H:=by
 cases o<;>simp only[iw,Op.operands]at h ⊢ <;>first
  |rfl
  |(simp at h;simp[h];done)
  |skip
 grind[Call.operands,sg]
theorem TY{o:Op}{H:ae}(h:∀x∈o.operands,cp R x=cp bl x):qn P o R H=qn P o bl H:=by
 cases o<;>simp only[qn,Op.operands]at h ⊢ <;>first
  |rfl
  |(simp at h;simp[h];done)
  |skip
 ·grind[DU]
 grind
theorem T0{o:Op}{l:Nat}(h:∀x∈o.operands,cp R x=cp bl x):ly P o R l=ly P o bl l:=by
 grind[ly,TY]
theorem Uw{o:Op}{H:ae}(h:∀x∈o.operands,cp R x=cp bl x):me P o R H=me P o bl H:=by
 cases o<;>simp only[me,Op.operands]at h ⊢ <;>first
  |rfl
  |(simp at h;simp[h];done)
  |skip
 ·rename_i c;cases aA:c.callee with
  |builtin b=>
   simp only[Call.operands,aA]at h ⊢;cases a:c.args.toList with
   |nil=>grind
   |cons s r=>
    cases r with
    |nil=>
     have ah:s∈c.args.toList:=al;grind
    |cons x r=>
     cases r with
     |nil=>
      have ah:s∈c.args.toList:=al;have ai:x∈c.args.toList:=al;grind
     |cons y r=>grind
  |value f=>rfl
  |invoke r m=>rfl
theorem Tt{c:Call}{H:ae}(h:∀x∈c.operands,cp R x=cp bl x):nU P H R c=nU P H bl c:=by
 unfold nU;cases aA:c.callee with
 |builtin b=>rfl
 |value f=>
  grind[Call.operands,sg]
 |invoke r m=>
  grind[Call.operands,sg]
theorem nP.congr{call:aq}{o:Op}{H:ae}{k:K}(h:∀x∈o.operands,cp R x=cp bl x)(a:nP P call o R H k):nP P call o bl H k:=by
 cases k with
 |skip=>exact a
 |pure v=>exact(Uf h).symm.trans a
 |read v=>exact(JE h).symm.trans a
 |new v b=>exact(T0 h).symm.trans a
 |cR v H'=>
  obtain⟨ah,ai|⟨c,g,ak,rfl,ai,ax⟩⟩:=a
  ·exact⟨ah,(by grind[Uw])⟩
  ·exact⟨ah,.inr ⟨c,g,ak,rfl,(Tt h).symm.trans ai,ax⟩⟩
end congr
def oS(P:Program)(m:Sem Next)(w:World)(next:Value->World->Prop):Prop:=
 match m.run P w with
 | .ok (.value x) a=>next x a
 | .ok (.enter f args) a=>Calls P f args a λ
  | .returned x,b=>next x b
  |_,_=>False
 |_=>False
def hr(E:Env)(P:Program)(g:Nat)(args:List af)(H:ae)(v:af)(H':ae):Prop:=∀(ρ:Env) (w:World) (xs:List Value),Rel ρ H w->jB E ρ H.next H'.next->bU ρ args xs->H.next<=H'.next->∀next:Value->World->Prop,(∀x a b,bA b v x->Step ρ H w b H' a->next x a)->oS P (callFunc g xs.toArray) w next
def e1(E:Env)(P:Program)(call:aq):Prop:=∀g args H v H',call g args H=A (v,H')->hr E P g args H v H'
section
variable {E:Env}{P:Program}{call:aq}{ρ:Env}{H H':ae}{w:World}{R:bf}{a:Act}{o:Oper}{v:af}{kk:Act->World->Prop}{Q:Exit->Act->World->Prop}
def Pe(h:jJ P o.op R=A v)(ar:eT ρ R a)(d:∀x,bA ρ v x->kk (a.put o.dst x) w):o.wp P a w kk Q:=by
 obtain⟨x,b,c⟩:=Ug h ar w;unfold Oper.wp;rw[b];exact d x c
def Pw(d:Rel ρ H w)(h:iw P o.op R H=A v)(ar:eT ρ R a)(e:∀x,bA ρ v x->kk (a.put o.dst x) w):o.wp P a w kk Q:=by
 obtain⟨x,b,c⟩:=Uk d h ar;unfold Oper.wp;rw[b];exact e x c
def On{l:Nat}{b:bz}(h:ly P o.op R l=A (v,b))(ar:eT ρ R a)(aC:ρ l=Z)
  (y:∀x c d loc,bA d v x->ρ.le d->(∀k,k≠l->d k=ρ k)->d l=A loc->w.heap.size<=loc.block->b.iA=J->kO d c loc b->
   c.os=w.os->c.tape=w.tape->c.output=w.output->w.heap.size<=c.heap.size->(∀k,k<w.heap.size->c.heap[k]? =w.heap[k]?)->kk (a.put o.dst x) c):o.wp P a w kk Q:=by
 obtain⟨x,c,d,loc,e,m,n,p,q,r,s,t,u,f,g,i,j⟩:=T3 h ar aC w;unfold Oper.wp;rw[e];exact y x c d loc m n p q r s t u f g i j
theorem K_(B:e1 E P call)(k:Rel ρ H w)(aC:jB E ρ H.next H'.next)(h:nP P call o.op R H (.cR v H'))(ar:eT ρ R a)
  (G:∀x d i,bA i v x->Step ρ H w i H' d->kk (a.put o.dst x) d):o.wp P a w kk Q:=by
 obtain⟨aL,ah|⟨c,g,ak,aA,ai,ax⟩⟩:=h
 ·obtain⟨n,x,d,i,M,j,s,t⟩:=Ux k ah (aC.new _ ad) ar;unfold Oper.wp;rw[M];unfold I4 at j;split at j
  ·subst j;exact G _ d i s t
  ·subst j;exact G _ d i s t
  grind
 ·unfold nU at ai;split at ai
  ·rename_i f y;split at ai
   ·rename_i l first captured S
    split at ai
    ·rename_i W q;simp only[bD,eF]at ai;obtain⟨rfl,rfl⟩:=ai;have aM:=eu ar S;have m:=qp ar q;generalize he:a.eval f=z at aM;cases aM with|func _ _ _ O L r K=>
     have b:=B _ _ _ _ _ ax ρ w _ k aC ((r.append m).append K) aL (λx d=>kk (a.put o.dst x) d) ad;have p:(execOp a.eval o).run P w=(callFunc l ((O++c.args.toList.map a.eval++L).toArray)).run P w:=by
      grind[execOp,resolve,Deferred.ofValue,invoke,map_toArray]
     unfold Oper.wp;rw[p];unfold oS at b;split at b
     ·rename_i e;rw[e];exact b
     ·rename_i e;rw[e];refine Calls.mono b λN Y T=> ?_
      grind
     grind
    grind
   grind
  ·rename_i rv name y;split at ai
   ·rename_i v0 U;split at ai
    ·rename_i l u W hm q;simp only[bD,eF]at ai;obtain⟨rfl,rfl⟩:=ai;have aM:=eu ar U;have m:=qp ar q;obtain⟨V,r,K⟩:=TV k hm aM (c.args.toList.map a.eval).toArray;have b:=B _ _ _ _ _ ax ρ w _ k aC (.cons _ _ _ _ r m) aL (λx d=>kk (a.put o.dst x) d) ad;have p:(execOp a.eval o).run P w=(callFunc l ((V::c.args.toList.map a.eval).toArray)).run P w:=by
      unfold execOp;rw[aA];simp only[resolve,y,pure_bind,invoke];grind[map_toArray]
     unfold Oper.wp;rw[p];unfold oS at b;split at b
     ·rename_i e;rw[e];exact b
     ·rename_i e;rw[e];refine Calls.mono b λN Y T=> ?_
      grind
     grind
    grind
   grind
  grind
end
def k0(acc:List Nat):List Edge->Nat
 |[]=>0
 |e::es=>if Region.binds .any e then 2^e.on|||(acc[e.on]?.getD 0|||k0 acc es)else k0 acc es
def pr:List Oper->List Nat->List Nat
 |[],acc=>acc
 |o::os,acc=>pr os (acc++[k0 acc o.after.toList])
def cJ(ops:Array Oper):List Nat:=pr ops.toList []
def cz(ms:List Nat)(j i:Nat):Bool:=(ms[i]?.getD 0).testBit j
def NK:∀(os pre:List Oper) (acc:List Nat),acc.length=pre.length->(∀i o,pre[i]? =A o->acc[i]? =A (k0 (acc.take i) o.after.toList))->
  ∀i o,(pre++os)[i]? =A o->(pr os acc)[i]? =A (k0 ((pr os acc).take i) o.after.toList)
 |[],pre,acc,aw,h,i,o,aZ=>by grind[pr]
 |p::os,pre,acc,aw,h,i,o,aZ=>by
  refine NK os (pre++[p]) _ al (λj q a=> ?_) i o al;grind
theorem zM{ops:Array Oper}{i:Nat}{o:Oper}(h:ops[i]? =A o):(cJ ops)[i]? =A (k0 ((cJ ops).take i) o.after.toList):=
 NK ops.toList [] [] rfl aX i o al
theorem y5{acc:List Nat}{e:Edge}:∀{es:List Edge},e∈es->Region.binds .any e=J->(k0 acc es).testBit e.on=J
 |[],h,_=>al
 |d::es,h,a=>by
  unfold k0;rcases List.mem_cons.1 h with rfl|h
  ·grind
  ·split
   ·simp[y5 h a]
   ·exact y5 h a
def y4{acc:List Nat}{j:Nat}:∀{es:List Edge},(k0 acc es).testBit j=J->∃e∈es,Region.binds .any e=J/\(j=e.on\/(acc[e.on]?.getD 0).testBit j=J)
 |[],h=>by simp[k0]at h
 |d::es,h=>by
  unfold k0 at h;split at h
  ·simp only[Nat.testBit_or,Bool.or_eq_true]at h;rcases h with h|h|h
   ·grind
   ·grind
   ·obtain⟨e,ah,ai,ax⟩:=y4 h;grind
  ·obtain⟨e,ah,ai,ax⟩:=y4 h;grind
def l6(L:Nat->Bool)(o:Oper):Prop:=∀e∈o.after,Region.binds .any e=J->L e.on=J
def tY(ops:Array Oper)(L:Nat->Bool):Prop:=∀i o,ops[i]? =A o->L i=J->l6 L o
theorem nf{ops:Array Oper}{L:Nat->Bool}(aA:tY ops L):∀(i:Nat) (o:Oper),ops[i]? =A o->l6 L o->∀j,cz (cJ ops) j i=J->L j=true:=by
 intro i
 induction i using Nat.strongRecOn with
 |_ i f=>
  intro o aZ hw j a;unfold cz at a;rw[zM aZ]at a;obtain⟨e,ah,ai,ax⟩:=y4 a;have d:=hw e al ai;rcases ax with rfl|ax
  ·omega
  ·rcases Nat.lt_or_ge e.on i with b|g
   ·rw[List.getElem?_take_of_lt b]at ax;cases c:ops[e.on]? with
    |none=>
     grind
    |some gT=>exact f e.on b gT c (aA _ _ c d) j ax
   grind
def UM{ops:Array Oper}{i:Nat}{o:Oper}(aZ:ops[i]? =A o){e:Edge}(he:e∈o.after)(a:Region.binds .any e=J):cz (cJ ops) e.on i=true:=by
 grind[cz,zM,y5]
def j8(ops:Array Oper)(R:bf)(o:Oper):Bool:=
 match o.guard with
 |none=>J
 |some (j,want)=>match ops[j]? with
  |some q=>(match q.dst with
   |some d=>(match R.get d with
    | .bool b=>b==want
    |_=>I)
   |none=>I)
  |none=>I
def JQ{ρ:Env}{ops:Array Oper}{R:bf}{a:Act}(ar:eT ρ R a)(o:Oper):Region.wanted o (yielded ops a.tmps)=j8 ops R o:=by
 unfold Region.wanted j8;cases aS:o.guard with
 |none=>rfl
 |some p=>
  obtain⟨j,want⟩:=p;simp only
  unfold yielded;cases e:ops[j]? with
  |none=>simp
  |some q=>
   cases b:q.dst with
   |none=>grind
   |some d=>
    simp only[Option.bind_some,b];have ah:=ar.get d;rw[Array.getD_eq_getD_getElem?]at ah;cases ba:a.tmps[d]? with
    |none=>
     rw[ba]at ah;generalize c:R.get d=v at ah;cases v<;>first|rfl|(cases ah)
    |some x=>
     rw[ba]at ah;generalize c:R.get d=v at ah;cases ah<;>first|rfl|(done)
def Uv{ops:Array Oper}{R bl:bf}{o:Oper}(h:∀d∈o.looksAt ops,R.get d=bl.get d):j8 ops R o=j8 ops bl o:=by
 unfold j8;cases aS:o.guard with
 |none=>rfl
 |some p=>
  grind[Oper.looksAt]
def Ut{ops:Array Oper}{R bl:bf}{o:Oper}(h:∀d∈o.looksAt ops,R.get d=bl.get d):∀x∈o.op.operands,cp R x=cp bl x:=by
 intro x aE;cases x with
 |tmp t=>
  simp only[cp];rw[h t ?_];refine List.mem_append.2 (.inl ?_);rw[List.mem_filterMap];exact⟨.tmp t,al,rfl⟩
 |const v=>rfl
 |global g=>rfl
 |func f=>rfl
structure bM where
 i:Nat
 o:Oper
 R:bf
 k:K
def gk(P:Program)(call:aq)(ops:Array Oper)(o:Oper)(R:bf)(H:ae):Option K:=
 match j8 ops R o with
 |true=>hU P call o.op R H
 |false=>A .skip
def aac{P:Program}{call:aq}{ops:Array Oper}{o:Oper}{R:bf}{H:ae}{v:af}{b:bz}(h:gk P call ops o R H=A (.new v b)):b.iA=true:=by
 grind[gk,ah7]
def canRun(P:Program)(call:aq)(ops:Array Oper):List Nat->bf->ae->Option (List bM×bf×ae)
 |[],R,H=>A ([],R,H)
 |i::is,R,H=>match ops[i]? with
  |none=>Z
  |some o=>match gk P call ops o R H with
   |none=>Z
   |some k=>match R.put o.dst k.val with
    |none=>Z
    |some bl=>match canRun P call ops is bl (k.heap H)with
     |none=>Z
     |some (T,bo,c5)=>A (⟨i,o,R,k⟩::T,bo,c5)
def cW:List bM->ae->ae
 |[],H=>H
 |t::ts,H=>cW ts (t.k.heap H)
theorem mo(zA B:List bM)(H:ae):cW (zA++B) H=cW B (cW zA H):=by
 induction zA generalizing H with
 |nil=>rfl
 |cons t zA a=>simp[cW,a]
def gA(L:Nat->Bool)(d:Nat):List bM->af->af
 |[],v=>v
 |t::ts,v=>gA L d ts (if L t.i=J/\t.o.dst=A d then t.k.val else v)
def oj(L:Nat->Bool)(d:Nat)(zA B:List bM)(v:af):gA L d (zA++B) v=gA L d B (gA L d zA v):=by
 induction zA generalizing v with
 |nil=>rfl
 |cons t zA a=>simp[gA,a]
theorem vf{L L':Nat->Bool}{d:Nat}:∀{zA:List bM} {v:af},(∀t∈zA,t.o.dst=A d->L t.i=L' t.i)->gA L d zA v=gA L' d zA v
 |[],_,_=>rfl
 |t::zA,v,h=>by
  simp only[gA];have:(L t.i=J/\t.o.dst=A d)↔(L' t.i=J/\t.o.dst=A d):=by
   grind
  simp only[this];exact vf λu hu=>h u al
theorem vg{L:Nat->Bool}{d:Nat}:∀{zA:List bM} {v:af},(∀t∈zA,t.o.dst=A d->L t.i=I)->gA L d zA v=v
 |[],_,_=>rfl
 |t::zA,v,h=>by
  simp only[gA];rw[if_neg al];exact vg λu hu=>h u al
def lE{P:Program}{call:aq}{ops:Array Oper}:∀{is:List Nat} {R:bf} {H:ae} {T:List bM} {bo:bf} {c5:ae},canRun P call ops is R H=A (T,bo,c5)->
  T.map (·.i)=is/\c5=cW T H/\bo.size=R.size/\∀d,bo.get d=gA (λ_=>J) d T (R.get d)
 |[],R,H,T,bo,c5,h=>by
  obtain⟨rfl,rfl,rfl⟩:=h;exact⟨rfl,rfl,rfl,λ_=>rfl⟩
 |i::is,R,H,T,bo,c5,h=>by
  simp only[canRun]at h;split at h
  ·cases h
  ·split at h
   ·cases h
   ·split at h
    ·cases h
    ·split at h
     ·cases h
     ·rename_i e c b cu;obtain⟨rfl,rfl,rfl⟩:=h;obtain⟨f,a,g,j⟩:=lE cu;refine⟨al,a,by grind[bf.size_put],λd=> ?_⟩;grind[bf.sE,gA]
def yV{P:Program}{call:aq}{ops:Array Oper}:∀{zA:List bM} {is:List Nat} {R:bf} {H:ae} {t:bM} {B:List bM} {bo:bf} {c5:ae},canRun P call ops is R H=A (zA++t::B,bo,c5)->
  ops[t.i]? =A t.o/\(∀d,t.R.get d=gA (λ_=>J) d zA (R.get d))/\gk P call ops t.o t.R (cW zA H)=A t.k/\(∀d,t.o.dst=A d->d<R.size)
 |zA,[],R,H,t,B,bo,c5,h=>by
  simp only[canRun,bD,eF]at h;have:=h.1;simp at this
 |zA,i::is,R,H,t,B,bo,c5,h=>by
  simp only[canRun]at h;split at h
  ·cases h
  ·rename_i o aZ;split at h
   ·cases h
   ·rename_i k f;split at h
    ·cases h
    ·rename_i bl a;split at h
     ·cases h
     ·rename_i l j g cu;simp only[bD,eF]at h;obtain⟨ah,rfl,rfl⟩:=h;cases zA with
      |nil=>
       obtain⟨rfl,rfl⟩:=ah;refine⟨aZ,λ_=>rfl,f,λd e=> ?_⟩;rw[e]at a;exact bf.Pk a
      |cons u zA=>
       obtain⟨rfl,rfl⟩:=ah;obtain⟨b,m,c,n⟩:=yV cu;refine⟨b,λd=> ?_,c,(by grind[bf.size_put])⟩;grind[bf.sE,gA]
def gr:ae->List bM->Prop
 |_,[]=>True
 |H,t::ts=>H.next<=(t.k.heap H).next/\gr (t.k.heap H) ts
def gr.append:∀{zA B:List bM} {H:ae},gr H (zA++B)->gr H zA/\gr (cW zA H) B
 |[],_,_,h=>⟨trivial,h⟩
 |_::zA,_,_,h=>by
  obtain⟨ah,ai⟩:=h;obtain⟨ax,aM⟩:=gr.append (zA:=zA) ai;exact⟨⟨ah,ax⟩,aM⟩
def gr.le:∀{zA:List bM} {H:ae},gr H zA->H.next<=(cW zA H).next
 |[],_,_=>du _
 |_::zA,_,h=>Nat.le_trans h.1 (gr.le (zA:=zA) h.2)
def sJ{P:Program}{call:aq}{ops:Array Oper}{o:Oper}{R:bf}{H:ae}{k:K}(h:gk P call ops o R H=A k):
  (j8 ops R o=J/\nP P call o.op R H k)\/(j8 ops R o=I/\k= .skip):=by
 grind[gk,ah5]
def MU{P:Program}{call:aq}{ops:Array Oper}{o:Oper}{R:bf}{H:ae}{k:K}(h:gk P call ops o R H=A k)(a:k.fF=J):qJ o.op=true:=by
 unfold gk at h;split at h
 ·grind[ah3]
 ·simp only[bD]at h;subst h;cases a
def EO{P:Program}{call:aq}{ops:Array Oper}{o:Oper}{R:bf}{H:ae}{k:K}(h:gk P call ops o R H=A k):H.next<=(k.heap H).next:=by
 rcases sJ h with⟨_,h⟩|⟨_,rfl⟩
 ·cases k with
  |cR v H'=>exact h.1
  |new v b=>simp[K.heap]
  |_=>exact du _
 ·exact du _
def sm{P:Program}{call:aq}{ops:Array Oper}:∀{is:List Nat} {R:bf} {H:ae} {T:List bM} {bo:bf} {c5:ae},canRun P call ops is R H=A (T,bo,c5)->gr H T
 |[],R,H,T,bo,c5,h=>by
  obtain⟨rfl,rfl,rfl⟩:=h;trivial
 |i::is,R,H,T,bo,c5,h=>by
  simp only[canRun]at h;split at h
  ·cases h
  ·split at h
   ·cases h
   ·rename_i k a;split at h
    ·cases h
    ·split at h
     ·cases h
     ·rename_i d c b cu;obtain⟨rfl,rfl,rfl⟩:=h;exact⟨EO a,sm cu⟩
def eE(L:Nat->Bool):List bM->ae->Nat->Option bz
 |[],_,_=>Z
 |t::ts,H,l=>match t.k with
  | .new _ b=>if l=H.next then(if L t.i=J then A b else Z)else eE L ts (H.push b) l
  |k=>eE L ts (k.heap H) l
def u_{L:Nat->Bool}:∀{T:List bM} {H:ae} {l:Nat} {b:bz},gr H T->eE L T H l=A b->H.next<=l
 |[],_,_,_,_,h=>by cases h
 |t::ts,H,l,b,hm,h=>by
  unfold eE at h;split at h
  ·rename_i v b' a;split at h
   ·omega
   ·have:=u_ (by have:=hm.2;rwa[a]at this) h;simp at this;omega
  ·have ah:=hm.1;have:=u_ hm.2 h;omega
def u9{L L':Nat->Bool}:∀{T:List bM} {H:ae},(∀t∈T,∀v b,t.k= .new v b->L t.i=L' t.i)->eE L T H=eE L' T H
 |[],_,_=>rfl
 |t::ts,H,h=>by
  funext l
  unfold eE;split
  ·rename_i v b a;rw[h t aX v b a,u9 (T:=ts) (λu hu=>h u al)]
  ·rw[u9 (T:=ts) (λu hu=>h u al)]
def sT{L:Nat->Bool}{t:bM}{ts:List bM}{H:ae}(h:∀v b,t.k≠ .new v b):eE L (t::ts) H=eE L ts (t.k.heap H):=by
 funext l
 show(match t.k with
  | .new _ b=>if l=H.next then(if L t.i=J then A b else Z)else eE L ts (H.push b) l
  |k=>eE L ts (k.heap H) l)=_
 split
 ·grind
 ·rfl
def OZ{L L':Nat->Bool}{t:bM}{v:af}{b:bz}(ba:t.k= .new v b)(d:L t.i=I)(e:L' t.i=J):∀{zC zD:List bM} {H:ae},gr H (zC++t::zD)->
  (∀u∈zC,L u.i=L' u.i)->(∀u∈zD,L u.i=L' u.i)->
  eE L' (zC++t::zD) H=(λk=>if k=(cW zC H).next then A b else eE L (zC++t::zD) H k)/\eE L (zC++t::zD) H (cW zC H).next=Z
 |[],zD,H,hm,g,a=>by
  constructor
  ·simp only[List.nil_append,cW,eE,ba,d,e,if_true,Bool.false_eq_true,if_false];rw[u9 (T:=zD) λu hu _ _ _=>a u hu];grind
  grind[eE,cW]
 |c::zC,zD,H,hm,g,a=>by
  obtain⟨ah,ai⟩:=hm;obtain⟨j,l⟩:=OZ ba d e (zC:=zC) (zD:=zD) ai al a;by_cases aA:∃f b',c.k= .new f b'
  ·obtain⟨f,b',aA⟩:=aA;have hle:(c.k.heap H).next<=(cW zC (c.k.heap H)).next:=(gr.append ai).1.le
   grind[K.heap,ae.fR,eE,cW]
  ·have aL:∀v b,c.k≠ .new v b:=λv b h=>aA ⟨v,b,h⟩
   rw[List.cons_append,sT aL,sT aL,cW];grind
def u7(ops:Array Oper)(ms:List Nat)(i j:Nat):Bool:=
 match ops[i]?,ops[j]? with
 |some o,A q=>(i != j)&&(!cz ms j i)&&(cz ms i j||o.apart ops q)
 |_,_=>I
def z6(ops:Array Oper)(ms:List Nat):List Nat->Bool
 |[]=>J
 |i::is=>is.all (u7 ops ms i)&&z6 ops ms is
def OX{ops:Array Oper}{ms:List Nat}:∀{is:List Nat},z6 ops ms is=J->is.Pairwise λi j=>u7 ops ms i j=J
 |[],_=> .nil
 |i::is,h=>by
  simp only[z6,Bool.and_eq_true,List.all_eq_true]at h;exact .cons h.1 (OX h.2)
def K8(n:Nat)(o:Oper):Bool:=o.after.toList.all λe=> !Region.binds .any e||decide (e.on<n)
def q0(ops:Array Oper)(ms ord:List Nat):Bool:=(List.range ops.size).all (λi=>ord.contains i)&&(ord.all (λi=> !cz ms i i)&&(ops.toList.all (K8 ops.size)&&z6 ops ms ord))
def kt(ms:List Nat):List bM->List Nat->Bool
 |[],_=>J
 |t::ts,ids=>match t.k with
  | .cR _ _=>ids.all (λj=>cz ms j t.i)&&kt ms ts (t.i::ids)
  | .new _ _=>kt ms ts (t.i::ids)
  |_=>kt ms ts ids
def y6{ms:List Nat}:∀{zA:List bM} {t:bM} {B:List bM} {ids:List Nat} {v:af} {H:ae},kt ms (zA++t::B) ids=J->t.k= .cR v H->
  (∀j∈ids,cz ms j t.i=J)/\∀u∈zA,u.k.fF=J->cz ms u.i t.i=J
 |[],t,B,ids,v,H,h,ba=>by
  grind[kt]
 |c::zA,t,B,ids,v,H,h,ba=>by
  simp only[List.cons_append,kt]at h;split at h
  ·simp only[Bool.and_eq_true]at h;obtain⟨ah,ai⟩:=y6 h.2 ba;grind
  ·obtain⟨ah,ai⟩:=y6 h ba;grind
  ·rename_i e f;obtain⟨ah,ai⟩:=y6 h ba;refine⟨ah,λu hu a=> ?_⟩;rcases List.mem_cons.1 hu with rfl|hu
   ·exfalso;cases d:u.k with
    |new v b=>grind
    |cR v H=>grind
    |_=>rw[d]at a;cases a
   grind
def gW(ms:List Nat)(rd:ae->Bool)(i:Nat):List bM->ae->Bool
 |[],H=>rd H
 |t::ts,H=>if t.k.fF then(cz ms t.i i||rd H)&&(cz ms i t.i||gW ms rd i ts (t.k.heap H))else gW ms rd i ts H
theorem zj{k:K}(h:k.fF=I)(H:ae):k.heap H=H:=by
 cases k<;>first|rfl|cases h
def IS{ms:List Nat}{rd:ae->Bool}{i:Nat}:∀{zA B:List bM} {H:ae},gW ms rd i (zA++B) H=J->(∀u∈zA,u.k.fF=J->cz ms i u.i=I)->
  (∀u c,B=u::c->u.k.fF=J/\cz ms u.i i=I)->rd (cW zA H)=J
 |[],[],H,h,_,_=>h
 |[],u::B,H,h,_,a=>by
  grind[gW,cW]
 |t::zA,B,H,h,d,a=>by
  simp only[List.cons_append,gW]at h;split at h
  ·rename_i b;simp only[Bool.and_eq_true,Bool.or_eq_true,d t aX b]at h;rw[cW];exact IS (h.2.resolve_left aX) al a
  ·rename_i b;rw[cW,zj al];exact IS h al a
def ld(P:Program)(o:Op)(R:bf)(v:af)(H:ae):Bool:=
 match iw P o R H with
 |some u=>af.beq u v
 |none=>I
def Pv{P:Program}{o:Op}{R:bf}{v:af}{H:ae}(h:ld P o R v H=J):iw P o R H=A v:=by
 grind[ld,af.beq_eq]
def ae.only(H:ae):ae:=match H.get (H.next-1)with
 |some b=>⟨bK.put b H.next .leaf (H.next-1),H.next⟩
 |none=>⟨.leaf,H.next⟩
def ae.sS{H:ae}{b:bz}{l:Nat}{x:bz}(h:(H.push b).only.get l=A x):l=H.next/\x=b:=by
 grind[get,ae.a2,ae.only,ae.fR,bK.uH,bK.sF,bK.sD]
def kB(k:K):Bool:=match k with
 | .cR _ _=>I
 |_=>J
def qu(ms:List Nat)(i:Nat):List bM->Bool->Bool
 |[],_=>I
 |t::ts,s=>match t.k with
  | .new _ _=>(s&&cz ms t.i i&&ts.all λu=>kB u.k)||qu ms i ts (s|| !cz ms t.i i)
  | .cR _ _=>qu ms i ts (s|| !cz ms t.i i)
  |_=>qu ms i ts s
def mH(ms:List Nat)(rd:ae->Bool)(i:Nat):List bM->ae->Bool->Bool
 |[],_,_=>I
 |t::ts,H,s=>match t.k with
  | .new _ b=>bif s&&cz ms t.i i&&ts.all (λu=>kB u.k)then rd (H.push b).only||mH ms rd i ts (H.push b) (s|| !cz ms t.i i)else mH ms rd i ts (H.push b) (s|| !cz ms t.i i)
  | .cR _ H'=>mH ms rd i ts H' (s|| !cz ms t.i i)
  |_=>mH ms rd i ts H s
def Ol{ms:List Nat}{rd:ae->Bool}{i:Nat}:∀{T:List bM} {H:ae} {s:Bool},mH ms rd i T H s=J->
  ∃zA u B v b,T=zA++u::B/\u.k= .new v b/\cz ms u.i i=J/\(∀x∈B,kB x.k=J)/\rd ((cW zA H).push b).only=J
 |[],H,s,h=>by cases h
 |t::ts,H,s,h=>by
  have c:∀{H':ae} {d:Bool},t.k.heap H=H'->mH ms rd i ts H' d=J->∃zA u B v b,t::ts=zA++u::B/\u.k= .new v b/\cz ms u.i i=J/\(∀x∈B,kB x.k=J)/\rd ((cW zA H).push b).only=true:=by
   intro H' d e cu;obtain⟨zA,u,B,v,b,f,g,j,l,m⟩:=Ol cu;grind[cW]
  unfold mH at h;split at h
  ·rename_i v b a;have n:t.k.heap H=H.push b:=by rw[a];rfl
   cases aA:(s&&cz ms t.i i&&ts.all λu=>kB u.k)with
   |true=>
    rw[aA,g8,Bool.or_eq_true]at h;simp only[Bool.and_eq_true,List.all_eq_true]at aA;rcases h with h|h
    ·exact⟨[],t,ts,v,b,rfl,a,aA.1.2,aA.2,h⟩
    grind
   |false=>grind
  ·rename_i v H' a;exact c (by rw[a];rfl) h
  ·rename_i ah ai;refine c (zj ?_ H) h;cases a:t.k with
   |new v b=>grind
   |cR v H'=>grind
   |_=>rfl
def rF(ms:List Nat)(rd:ae->Bool)(i:Nat)(T:List bM)(H:ae):Bool:=bif qu ms i T I then gW ms rd i T H||mH ms rd i T H I else gW ms rd i T H
def ags{ms:List Nat}{rd:ae->Bool}{i:Nat}{T:List bM}{H:ae}(h:rF ms rd i T H=J):gW ms rd i T H=J\/mH ms rd i T H I=true:=by
 grind[rF]
def m0(P:Program)(ms:List Nat)(cN:Nat->Bool)(T:List bM)(H:ae):List bM->Bool
 |[]=>J
 |t::ts=>(match t.k with
  | .read v=>cN t.i||rF ms (ld P t.o.op t.R v) t.i T H
  |_=>J)&&m0 P ms cN T H ts
def S3{P:Program}{ms:List Nat}{cN:Nat->Bool}{T:List bM}{H:ae}{t:bM}{v:af}(ba:t.k= .read v):∀{ts:List bM},m0 P ms cN T H ts=J->t∈ts->cN t.i=J\/rF ms (ld P t.o.op t.R v) t.i T H=J
 |[],_,hm=>al
 |u::ts,h,hm=>by
  simp only[m0,Bool.and_eq_true]at h;rcases List.mem_cons.1 hm with rfl|hm
  ·grind
  ·exact S3 ba h.2 hm
section
variable {P:Program}{call:aq}{ops:Array Oper}{ord:List Nat}{dh bo:bf}{H0 c5:ae}{T:List bM}{ρ0:Env}{w0:World}{Q:Exit->Act->World->Prop}
def c0(a:Array Bool)(i:Nat):Bool:=a.getD i I
theorem OV{i j:Nat}{o q:Oper}(aP:ops[i]? =A o)(a:ops[j]? =A q)(h:u7 ops (cJ ops) i j=J):
  i≠j/\cz (cJ ops) j i=I/\(cz (cJ ops) i j=J\/o.apart ops q=J):=by
 grind[u7]
def kg(ops:Array Oper)(ms ord:List Nat)(i:Nat):Bool:=
 ord.all λj=>(j==i)||(match ops[j]? with|some o=> !qJ o.op|none=>J)||cz ms j i||cz ms i j
theorem aiL{ms ord:List Nat}{i j:Nat}{o:Oper}(h:kg ops ms ord i=J)(b:j∈ord)(c:j≠i)(aZ:ops[j]? =A o)(a:qJ o.op=J):cz ms j i=J\/cz ms i j=true:=by
 grind[kg]
structure Ctx(P:Program)(call:aq)(ops:Array Oper)(ord:List Nat)(dh:bf)(H0:ae)(T:List bM)(bo:bf)(c5:ae):Prop where
 dO:canRun P call ops ord dh H0=some (T,bo,c5)
 FP:q0 ops (cJ ops) ord=true
 cR:kt (cJ ops) T []=true
 ln:m0 P (cJ ops) (kg ops (cJ ops) ord) T H0 T=true
theorem Ctx.OW(c:Ctx P call ops ord dh H0 T bo c5):T.Pairwise λt u=>u7 ops (cJ ops) t.i u.i=true:=by
 have h:=c.FP;simp only[q0,Bool.and_eq_true]at h;have ai:=OX h.2.2.2;rw[<-(lE c.dO).1]at ai;grind
def Ctx.at(c:Ctx P call ops ord dh H0 T bo c5){zA B:List bM}{t:bM}(h:T=zA++t::B):
  ops[t.i]? =A t.o/\(∀d,t.R.get d=gA (λ_=>J) d zA (dh.get d))/\gk P call ops t.o t.R (cW zA H0)=A t.k/\(∀d,t.o.dst=A d->d<dh.size):=
 yV (by rw[<-h];exact c.dO)
def Ctx.mem(c:Ctx P call ops ord dh H0 T bo c5){t:bM}(h:t∈T):ops[t.i]? =A t.o:=by
 obtain⟨zA,B,h⟩:=List.append_of_mem h;exact(c.at h).1
theorem Ctx.before(c:Ctx P call ops ord dh H0 T bo c5){zA B:List bM}{t:bM}(h:T=zA++t::B){u:bM}(hu:u∈zA):
  u.i≠t.i/\cz (cJ ops) t.i u.i=I/\(cz (cJ ops) u.i t.i=J\/u.o.apart ops t.o=J):=by
 have a:=c.OW;rw[h,List.pairwise_append]at a;exact OV (c.mem al) (c.mem al) (a.2.2 u hu t aX)
theorem Ctx.after(c:Ctx P call ops ord dh H0 T bo c5){zA B:List bM}{t:bM}(h:T=zA++t::B){u:bM}(hu:u∈B):
  t.i≠u.i/\cz (cJ ops) u.i t.i=I/\(cz (cJ ops) t.i u.i=J\/t.o.apart ops u.o=J):=by
 have a:=c.OW;rw[h,List.pairwise_append,List.pairwise_cons]at a;exact OV (c.mem al) (c.mem al) (a.2.1.1 u hu)
theorem Ctx.looks(c:Ctx P call ops ord dh H0 T bo c5){zA B:List bM}{t:bM}(h:T=zA++t::B){L:Nat->Bool}(aA:tY ops L)(hw:l6 L t.o)(j:L t.i=I):
  ∀d∈t.o.looksAt ops,gA L d T (dh.get d)=t.R.get d:=by
 intro d k;obtain⟨g,b,_,_⟩:=c.at h;rw[b d,h,oj,gA];rw[if_neg al];rw[vg (zA:=B),vf (L':=λ_=>J)]
 ·intro u hu f;obtain⟨_,_,ax⟩:=c.before h hu;grind[nf,Oper.apart_spec]
 ·intro u hu f;obtain⟨_,_,ax⟩:=c.after h hu;rcases ax with ax|ax
  ·cases e:L u.i with
   |false=>rfl
   |true=>
    have a:=c.mem (t:=u) al;have:=nf aA _ _ a (aA _ _ a e) _ ax;grind
  grind[Oper.apart_spec]
theorem Ctx.Ty(c:Ctx P call ops ord dh H0 T bo c5){zA B:List bM}{t:bM}(h:T=zA++t::B){L L':Nat->Bool}(aA:tY ops L)(n:L t.i=I)(l:L' t.i=J)(e:∀j,j≠t.i->L' j=L j)(d:Nat)(v:af):
  gA L' d T v=if t.o.dst=A d then t.k.val else gA L d T v:=by
 have f:∀u∈zA,u.o.dst=A d->L' u.i=L u.i:=λu hu _=>e _ (c.before h hu).1
 have g:∀u∈B,u.o.dst=A d->L' u.i=L u.i:=λu hu _=>e _ (Ne.symm (c.after h hu).1)
 rw[h,oj,oj,vf f];simp only[gA];rw[vf g];by_cases a:t.o.dst=A d
 ·rw[if_pos ⟨l,a⟩,if_pos a];refine vg λu hu p=> ?_
  obtain⟨_,_,ax⟩:=c.after h hu;rcases ax with ax|ax
  ·cases m:L u.i with
   |false=>rfl
   |true=>
    have b:=c.mem (t:=u) al;have:=nf aA _ _ b (aA _ _ b m) _ ax;grind
  grind[Oper.apart_spec]
 grind
theorem gE.turns{N:Nat}{ρ:Env}{w:World}{L:Nat->Bool}:∀{zC zD:List bM} {H:ae},gr H (zC++zD)->(∀u∈zC,u.k.fF=J->L u.i=J/\∃v b,u.k= .new v b)->
  gE ρ0 H0 w0 N (eE L (zC++zD) H) ρ H w->gE ρ0 H0 w0 N (eE L zD (cW zC H)) ρ (cW zC H) w
 |[],zD,H,_,_,m=>m
 |c::zC,zD,H,hm,j,m=>by
  by_cases a:c.k.fF=J
  ·obtain⟨aw,v,b,d⟩:=j c aX a;have o:eE L (c::zC++zD) H H.next=A b:=by grind[eE]
   have g:=m.tT o;have e:gr (H.push b) (zC++zD):=by have:=hm.2;rw[d]at this;exact this
   have heq:(λk=>if k=H.next then Z else eE L (c::zC++zD) H k)=eE L (zC++zD) (H.push b):=by
    funext k
    by_cases l:k=H.next
    ·rw[if_pos l];cases aJ:eE L (zC++zD) (H.push b) k with
     |none=>rfl
     |some b'=>have:=u_ e aJ;simp at this;omega
    grind[eE]
   rw[heq]at g;have:=gE.turns e al g;rw[cW,d];exact this
  ·have n:∀v b,c.k≠ .new v b:=λv b h=>by rw[h]at a;exact a rfl
   rw[List.cons_append,sT n]at m;have f:=zj (fA a) H;rw[cW];rw[f]at m ⊢;refine gE.turns ?_ al m;have:=hm.2;rwa[f]at this
structure Inv(ops:Array Oper)(dh:bf)(H0:ae)(T:List bM)(N:Nat)(ρ0:Env)(w0:World)(b:Array Bool)(a:Act)(w:World):Prop where
 size:b.size=ops.size
 closed:tY ops (c0 b)
 mid:∃ρ T1 T2,T=T1++T2/\(∀t∈T1,t.k.fF=true->c0 b t.i=true)/\(∀t∈T2,(∃v H,t.k= .cR v H)->c0 b t.i=false)/\
  gE ρ0 H0 w0 N (eE (c0 b) T2 (cW T1 H0)) ρ (cW T1 H0) w/\∃c:bf,eT ρ c a/\c.size=dh.size/\∀d,c.get d=gA (c0 b) d T (dh.get d)
theorem Ctx.final(c:Ctx P call ops ord dh H0 T bo c5){e:Array Bool}{a:Act}{w:World}(aP:Inv ops dh H0 T c5.next ρ0 w0 e a w)(n:∀t∈T,c0 e t.i=J):
  ∃ρ,eT ρ bo a/\Step ρ0 H0 w0 ρ c5 w:=by
 obtain⟨ρ,T1,T2,dO,ah,ai,m,r,f,q,y⟩:=aP.mid;obtain⟨s,j,l,x⟩:=lE c.dO;have h:=sm c.dO;rw[dO]at h;have p:=(gr.append h).2;have gz:=gE.turns (zC:=T2) (zD:=[]) (L:=c0 e) (fA p) (λu hu g=>by
  have aw:=n u al;refine⟨aw,?_⟩;cases o:u.k with
  |new v b=>grind
  |cR v H=>grind
  |_=>rw[o]at g;cases g) (fA m)
 rw[<-mo,<-dO,<-j]at gz;refine⟨ρ,⟨by rw[l,<-q];exact f.size,λd=> ?_,f.none⟩,gz.done rfl⟩;have:=f.get d;grind[vf]
theorem pE{a:Array Bool}{i:Nat}(h:i∈Region.ready .any ops a)(d:a.size=ops.size):
  ∃o,ops[i]? =A o/\c0 a i=I/\l6 (c0 a) o/\i<ops.size:=by
 unfold Region.ready at h;simp only[List.mem_filter,List.mem_range,Bool.and_eq_true,Bool.not_eq_true']at h;obtain⟨b,ah,ai⟩:=h;have aZ:ops[i]? =A ops[i]:=al;refine⟨ops[i],aZ,?_,?_,b⟩
 ·grind[c0]
 ·rw[aZ]at ai;simp only[Option.map_some,Option.getD_some,Array.all_eq_true']at ai;intro e he c;grind[c0]
theorem Ae{a:Array Bool}{i:Nat}{o:Oper}(aZ:ops[i]? =A o)(aw:c0 a i=I)(hw:l6 (c0 a) o)(d:a.size=ops.size):i∈Region.ready .any ops a:=by
 unfold Region.ready;have c:i<ops.size:=al;simp only[List.mem_filter,List.mem_range,Bool.and_eq_true,Bool.not_eq_true'];refine⟨c,?_,?_⟩
 ·grind[c0]
 ·rw[aZ];simp only[Option.map_some,Option.getD_some,Array.all_eq_true'];intro e he;by_cases b:Region.binds .any e=J
  ·have:=hw e he b;grind[c0]
  grind
theorem Ctx.Js(c:Ctx P call ops ord dh H0 T bo c5){a:Array Bool}(m:a.size=ops.size)(aL:Region.ready .any ops a=[]):∀t∈T,c0 a t.i=true:=by
 have f:=c.FP;simp only[q0,Bool.and_eq_true,List.all_eq_true,List.mem_range]at f;obtain⟨g,v,j,_⟩:=f;have k:=(lE c.dO).1;have key:∀(n:Nat) (zA:List bM) (t:bM) (B:List bM),zA.length=n->T=zA++t::B->c0 a t.i=true:=by
  intro n
  induction n using Nat.strongRecOn with
  |_ n x=>
   intro zA t B hlen h;have aZ:=(c.at h).1;cases aw:c0 a t.i with
   |true=>rfl
   |false=>
    have:t.i∈Region.ready .any ops a:=by
     refine Ae aZ aw (λe he b=> ?_) m;have s:=UM aZ he b;have l:e.on<ops.size:=by
      have ah:=j t.o (by
       grind)
      unfold K8 at ah;rw[List.all_eq_true]at ah;have ai:=ah e (fA he);simpa [b]using ai
     have d:=g e.on l;rw[List.contains_iff_mem,<-k,List.mem_map]at d;obtain⟨u,hu,w⟩:=d;rw[h]at hu;rcases List.mem_append.1 hu with hu|hu
     ·obtain⟨p,q,r⟩:=List.append_of_mem hu;grind
     ·rcases List.mem_cons.1 hu with rfl|hu
      ·grind
      ·exfalso;have ah:=(c.after h hu).2.1;grind
    grind
 intro t ba;obtain⟨zA,B,h⟩:=List.append_of_mem ba;grind
theorem KS{p q:Nat->Bool}{i:Nat}:∀{l:List Nat},i∈l->(∀j,q j=J->p j=J)->p i=J->q i=I->l.countP q<l.countP p
 |[],h,_,_,_=>al
 |j::l,h,himp,a,aJ=>by
  have hle:∀l:List Nat,l.countP q<=l.countP p:=λl=>List.countP_mono_left λx _ aE=>himp x aE
  simp only[List.countP_cons];rcases List.mem_cons.1 h with rfl|h
  ·grind
  ·have:=KS h himp a aJ;grind
theorem pk{a:Array Bool}{i:Nat}(aP:i<a.size)(j:Nat):c0 (a.setIfInBounds i J) j=if j=i then J else c0 a j:=by
 unfold c0;rw[Array.getD_eq_getD_getElem?,Array.getD_eq_getD_getElem?,Array.getElem?_setIfInBounds];grind
end
section
variable {E:Env}{P:Program}{call:aq}{ops:Array Oper}{ord:List Nat}{dh bo:bf}{H0 c5:ae}{T:List bM}{ρ0:Env}{w0:World}{Q:Exit->Act->World->Prop}
def Ctx.uniq(c:Ctx P call ops ord dh H0 T bo c5){zA B:List bM}{t:bM}(h:T=zA++t::B){u:bM}(hu:u∈T)(he:u.i=t.i):u=t:=by
 rw[h]at hu;rcases List.mem_append.1 hu with hu|hu
 ·exact absurd he (c.before h hu).1
 ·rcases List.mem_cons.1 hu with rfl|hu
  ·rfl
  ·exact absurd he.symm (c.after h hu).1
def DC(H0:ae)(T:List bM)(N:Nat)(ρ0:Env)(w0:World)(L:Nat->Bool)(ρ:Env)(w:World)(T1 T2:List bM):Prop:=T=T1++T2/\(∀t∈T1,t.k.fF=J->L t.i=J)/\(∀t∈T2,(∃v H,t.k= .cR v H)->L t.i=I)/\gE ρ0 H0 w0 N (eE L T2 (cW T1 H0)) ρ (cW T1 H0) w
theorem Ctx.next(c:Ctx P call ops ord dh H0 T bo c5){zA B:List bM}{t:bM}(h:T=zA++t::B){b:Array Bool}(H:b.size=ops.size)(aA:tY ops (c0 b))(aw:c0 b t.i=I)
  (hw:l6 (c0 b) t.o) {ρ:Env} {f:bf} {a:Act} {x:Value} {w:World} (z:eT ρ f a) (K:f.size=dh.size) (E:∀d,f.get d=gA (c0 b) d T (dh.get d)) (aE:bA ρ t.k.val x) {T1 T2:List bM}
  (m:DC H0 T c5.next ρ0 w0 (c0 (b.setIfInBounds t.i J)) ρ w T1 T2):Inv ops dh H0 T c5.next ρ0 w0 (b.setIfInBounds t.i J) (a.put t.o.dst x) w:=by
 obtain⟨aZ,_,_,u⟩:=c.at h;have G:t.i<b.size:=al;have s:c0 (b.setIfInBounds t.i J) t.i=true:=by grind[pk]
 have l:∀j,j≠t.i->c0 (b.setIfInBounds t.i J) j=c0 b j:=(by grind[pk]);have r:∀j,c0 b j=J->c0 (b.setIfInBounds t.i J) j=true:=al;have y:∃bl,f.put t.o.dst t.k.val=A bl:=by
  cases v:t.o.dst with
  |none=>exact⟨f,rfl⟩
  |some d=>
   have:=u d v;exact⟨{f with t:=bK.put t.k.val (d+1) f.t d},by grind[bf.put]⟩
 obtain⟨bl,n⟩:=y;refine⟨al,λi o aP q e he p=> ?_,ρ,T1,T2,m.1,m.2.1,m.2.2.1,m.2.2.2,bl,z.put n aE,by grind[bf.size_put],λd=> ?_⟩
 ·by_cases g:i=t.i
  ·subst g;rw[aZ]at aP;cases aP;exact r _ (hw e he p)
  ·rw[l i g]at q;exact r _ (aA i o aP q e he p)
 ·rw[bf.sE n d,c.Ty h aA aw s l d,E d]
theorem Ctx.norm(c:Ctx P call ops ord dh H0 T bo c5){N:Nat}{L:Nat->Bool}{ρ:Env}{w:World}:∀{T2 T1:List bM},DC H0 T N ρ0 w0 L ρ w T1 T2->
  ∃j e,DC H0 T N ρ0 w0 L ρ w j e/\∀u d,e=u::d->u.k.fF=J/\L u.i=I
 |[],T1,m=>⟨T1,[],m,λu d h=>by cases h⟩
 |u::T2,T1,m=>by
  by_cases o:u.k.fF=J/\L u.i=I
  ·grind
  ·obtain⟨ah,ai,ax,aM⟩:=m;have f:=sm c.dO;rw[ah]at f;have n:=(gr.append f).2;have gz:=gE.turns (zC:=[u]) (zD:=T2) (L:=L) n (λv g a=>by
    have:v=u:=al;subst this;have aw:L v.i=true:=by
     grind
    refine⟨aw,?_⟩;cases l:v.k with
    |new x b=>grind
    |cR x H=>grind
    |_=>rw[l]at a;cases a) aM
   rw[<-mo]at gz;refine c.norm (T2:=T2) (T1:=T1++[u]) ⟨al,λv g a=> ?_,λv g=>ax v al,gz⟩;grind
theorem O0{L:Nat->Bool}{u:bM}{v:af}{b:bz}(hu:u.k= .new v b)(a:L u.i=J):∀{zC zD:List bM} {H:ae},gr H (zC++u::zD)->eE L (zC++u::zD) H (cW zC H).next=A b
 |[],zD,H,_=>by grind[eE,cW]
 |c::zC,zD,H,hm=>by
  have f:=O0 hu a (zC:=zC) (zD:=zD) hm.2;have hle:∀{zC:List bM} {H:ae},gr H zC->H.next<=(cW zC H).next:=by
   intro zC
   induction zC with
   |nil=>intro H _;exact du _
   |cons x zC d=>intro H h;exact Nat.le_trans h.1 (d h.2)
  by_cases aL:∃v b,c.k= .new v b
  ·obtain⟨g,b',e⟩:=aL;have ai:=hle (gr.append hm.2).1;grind[K.heap,ae.fR,eE,cW]
  ·rw[List.cons_append,sT λv b h=>aL ⟨v,b,h⟩,cW];omega
theorem EG{l:Nat}:∀{zC:List bM} {H:ae},(∀x∈zC,kB x.k=J)->l<H.next->(cW zC H).get l=H.get l
 |[],H,_,_=>rfl
 |c::zC,H,d,aw=>by
  have a:=d c aX;rw[cW];cases e:c.k with
  |new v b=>
   rw[EG al (by grind[K.heap,ae.fR])];exact ae.eW ad
  |cR v H'=>rw[e]at a;cases a
  |_=>exact EG al aw
theorem Rel.ab8{ρ:Env}{H:ae}{w:World}{b:bz}(e:b.qN=I)(h:b≠ .dead->∃loc,ρ H.next=A loc/\kO ρ w loc b):Rel ρ (H.push b).only w where
 row l ro esz els aS:=by
  obtain⟨rfl,rfl⟩:=ae.sS aS;obtain⟨loc,ah,ai⟩:=h al;exact⟨loc,ah,ai⟩
 map l es aS:=by
  obtain⟨rfl,rfl⟩:=ae.sS aS;obtain⟨loc,ah,ai⟩:=h al;exact⟨loc,ah,ai⟩
 dZ l t esz els aS:=by
  obtain⟨rfl,rfl⟩:=ae.sS aS;obtain⟨loc,ah,ai⟩:=h al;exact⟨loc,ah,ai⟩
 apart l f loc g ah ai d _ _:=by
  exfalso;have a:∃x,(H.push b).only.get l=A x:=by
   grind[ae.rw]
  have c:∃x,(H.push b).only.get f=A x:=by
   grind[ae.live]
  obtain⟨x,a⟩:=a;obtain⟨y,c⟩:=c;exact d ((ae.sS a).1.trans (ae.sS c).1.symm)
 old l s esz els aS:=by
  obtain⟨rfl,rfl⟩:=ae.sS aS;cases e
theorem count_set{n i fuel:Nat}{a:Array Bool}(f:i<a.size)(e:i<n)(aw:c0 a i=I)(c:(List.range n).countP (λj=> !c0 a j)<=fuel+1):(List.range n).countP (λj=> !c0 (a.setIfInBounds i J) j)<=fuel:=by
 have b:c0 (a.setIfInBounds i J) i=true:=by grind[pk]
 have:=KS (p:=λj=> !c0 a j) (q:=λj=> !c0 (a.setIfInBounds i J) j) (i:=i) (l:=List.range n) al
  (λj d=>by
   grind[pk]) al al
 omega
theorem Ctx.step(c:Ctx P call ops ord dh H0 T bo c5)(bk:e1 E P call)(bd:E.le ρ0){g:Array Bool}{a:Act}{w:World}(aP:Inv ops dh H0 T c5.next ρ0 w0 g a w){i:Nat}{o:Oper}(aZ:ops[i]? =A o)(aw:c0 g i=I)(hw:l6 (c0 g) o)(bq:i<ops.size)
  {kk:Act->World->Prop} (aA:∀b1 aq,Inv ops dh H0 T c5.next ρ0 w0 (g.setIfInBounds i J) b1 aq->kk b1 aq):wpOp P ops Q i kk a w:=by
 have a1:=c.FP;simp only[q0,Bool.and_eq_true,List.all_eq_true,List.mem_range]at a1;have a0:=a1.1 i bq;rw[List.contains_iff_mem,<-(lE c.dO).1,List.mem_map]at a0;obtain⟨t,ba,rfl⟩:=a0;have bY:=c.mem ba;obtain rfl:t.o=o:=al;obtain⟨ρ,T1,T2,O,a9,a_,m,aL,q,aI,ap⟩:=aP.mid;have bX:t.i<g.size:=by rw[aP.size];omega
 have bg:c0 (g.setIfInBounds t.i J) t.i=true:=by grind[pk]
 have z:∀j,j≠t.i->c0 (g.setIfInBounds t.i J) j=c0 g j:=(by grind[pk]);obtain⟨ar,aK,n⟩:=List.append_of_mem ba;have aY:∀d∈t.o.looksAt ops,aL.get d=t.R.get d:=λd bl=>by rw[ap d];exact c.looks n aP.closed hw aw d bl
 have an:=Ut aY;have bt:Region.wanted t.o (yielded ops a.tmps)=j8 ops t.R t.o:=(JQ q t.o).trans (Uv aY);unfold wpOp;rw[aZ];simp only[bt];have still:t.k.fF=I->∀x,bA ρ t.k.val x->kk (a.put t.o.dst x) w:=by
  intro h x aE;refine aA _ _ (c.next n aP.size aP.closed aw hw q aI ap aE (T1:=T1) (T2:=T2) ⟨O,λu hu W=> ?_,λu hu aG=> ?_,?_⟩)
  ·grind
  ·have ak:u.i≠t.i:=λe=>by
    have:=c.uniq n al e;subst this;obtain⟨v,H,p⟩:=aG;rw[p]at h;cases h
   grind
  ·rw[u9 (L':=c0 g) λu hu v b p=>z _ λe=>by
    have:=c.uniq n al e;subst this;rw[p]at h;cases h]
   exact m
 rcases sJ (c.at n).2.2.1 with⟨aH,p⟩|⟨aH,p⟩
 ·rw[aH];simp only[if_true];refine .inl ?_;have aO:t.k.fF=J->∃zC zD,T2=zC++t::zD:=λh=>by
   rw[O]at ba;rcases List.mem_append.1 ba with ba|ba
   ·grind
   ·exact List.append_of_mem ba
  have aj:=sm c.dO;cases f:t.k with
  |skip=>rw[f]at p;exact p.elim
  |pure v=>
   rw[f]at p;have G:=nP.congr (λx aE=>(an x aE).symm) p;exact Pe G q λx aE=>still (by rw[f];rfl) x (by rw[f];exact aE)
  |read v=>
   obtain⟨Y,ay,⟨f1,f2,f3,f4⟩,f5⟩:=c.norm (ρ0:=ρ0) (w0:=w0) (N:=c5.next) (L:=c0 g) (ρ:=ρ) (w:=w) (T2:=T2) (T1:=T1) ⟨O,a9,a_,m⟩;have am:∃av,Rel ρ av w/\iw P t.o.op t.R av=A v:=by
    rcases S3 f c.ln ba with bm|bs
    ·
      refine⟨_,f4.rel,?_⟩;have bT:iw P t.o.op t.R (cW ar H0)=A v:=by
       rcases sJ (c.at n).2.2.1 with⟨_,aV⟩|⟨aE,_⟩
       ·rw[f]at aV;exact aV
       grind
      have aU:∀u∈T,u.k.fF=J->u.i≠t.i/\(cz (cJ ops) u.i t.i=J\/cz (cJ ops) t.i u.i=J):=λu hu h=>by
       have ak:u.i≠t.i:=λe=>by
        have:=c.uniq n hu e;subst this;rw[f]at h;cases h
       obtain⟨bN,bO,ah⟩:=List.append_of_mem hu;refine⟨ak,aiL bm ?_ ak (c.at ah).1 (MU (c.at ah).2.2.1 h)⟩;rw[<-(lE c.dO).1,List.mem_map];grind
      have bU:∀u∈ar,u.k.fF=J->c0 g u.i=true:=λu hu h=>by
       rcases(aU u al h).2 with ah|ah
       ·exact nf aP.closed _ _ aZ hw _ ah
       ·have:=(c.before n hu).2.1;grind
      have bS:∀u∈aK,u.k.fF=J->c0 g u.i=false:=λu hu h=>by
       have a4:u∈T:=al;rcases(aU u a4 h).2 with ah|ah
       ·have:=(c.after n hu).2.1;grind
       ·cases af:c0 g u.i with
        |false=>rfl
        |true=>
         have V:=c.mem a4;have:=nf aP.closed _ _ V (aP.closed _ _ V af) _ ah;grind
      have aF:Y++ay=ar++t::aK:=al;rcases List.append_eq_append_iff.1 aF with⟨b1,bi,bj⟩|⟨aN,aR,ab⟩
      ·cases b1 with
       |nil=>grind
       |cons u bP=>
        grind
      ·have bW:∀(zX:List bM) (H:ae),(∀u∈zX,u.k.fF=I)->cW zX H=H:=by
        intro zX
        induction zX with
        |nil=>intro H _;rfl
        |cons u zX bZ=>grind[cW,zj]
       grind[mo]
    ·rcases ags bs with a5|br
     rotate_left
     ·obtain⟨zA,u,B,b2,b,r,s,bb,bR,bc⟩:=Ol br;have a3:b.iA=true:=aac ((c.at r).2.2.1.trans (congrArg A s));refine⟨_,Rel.ab8 (bz.iA.old a3) λaa=> ?_,Pv bc⟩;have af:=nf aP.closed _ _ aZ hw _ bb;have aF:Y++ay=zA++u::B:=al;rcases List.append_eq_append_iff.1 aF with⟨b1,bi,bj⟩|⟨aN,aR,ab⟩
      ·have bV:=f4.kE (cW zA H0).next b (by
        rw[f1]at aj;have y:=(gr.append aj).2;grind[mo,O0])
       grind
      ·cases aN with
       |nil=>
        grind
       |cons x bQ=>
        simp only[List.cons_append,List.cons.injEq]at ab;obtain⟨rfl,ab⟩:=ab;have aB:(cW Y H0).get (cW zA H0).next=A b:=by
         rw[aR,mo,cW,s];rw[EG al (by simp[K.heap])];exact ae.a2 _ b
        cases b with
        |row ro esz els=>exact f4.rel.row _ _ _ _ aB
        |map es=>exact f4.rel.map _ _ aB
        |dZ t esz els=>exact f4.rel.dZ _ _ _ _ aB
        |dead=>grind
        |old=>cases a3
     refine⟨_,f4.rel,?_⟩;rw[show gW (cJ ops) (ld P t.o.op t.R v) t.i T H0=gW (cJ ops) (ld P t.o.op t.R v) t.i (Y++ay) H0 by grind]at a5;exact Pv (IS a5 (λu hu W=>by
      cases aa:cz (cJ ops) t.i u.i with
      |false=>rfl
      |true=>
       have V:=c.mem (t:=u) al;have:=nf aP.closed _ _ V (aP.closed _ _ V (f2 u hu W)) _ aa;grind) (λu a8 hu=>by
      obtain⟨r,s⟩:=f5 u a8 hu;refine⟨r,?_⟩;cases aa:cz (cJ ops) u.i t.i with
      |false=>rfl
      |true=>
       have:=nf aP.closed _ _ aZ hw _ aa;grind))
   obtain⟨av,bu,am⟩:=am;rw[<-JE an]at am;exact Pw bu am q λx aE=>still (by rw[f];rfl) x (by rw[f];exact aE)
  |new v b=>
   obtain⟨zC,zD,S⟩:=aO (by rw[f];rfl);have ah:T=(T1++zC)++t::zD:=al;have aC:=(c.at ah).2.2.1;rcases sJ aC with⟨_,U⟩|⟨aE,_⟩
   ·rw[f]at U;have G:=nP.congr (λx aE=>(an x aE).symm) U;have y:gr (cW T1 H0) (zC++t::zD):=by
     have:=aj;rw[O,S]at this;exact(gr.append this).2
    obtain⟨bv,a6⟩:=OZ (L:=c0 g) (L':=c0 (g.setIfInBounds t.i J)) f aw bg y
     (λu hu=>(z _ (c.before ah al).1).symm) (λu hu=>(z _ (Ne.symm (c.after ah hu).1)).symm)
    have aT:(cW T1 H0).next<=(cW zC (cW T1 H0)).next:=(gr.append y).1.le
    have aX:(cW zC (cW T1 H0)).next<c5.next:=by
     have ai:=(gr.append y).2;have ax:=ai.2.le;rw[f]at ax;have aM:c5=cW zD (K.heap (cW zC (cW T1 H0)) (.new v b)):=by
      rw[(lE c.dO).2.1,ah,mo,mo,cW,f]
     grind[K.heap,ae.fR]
    rw[S]at m;have bn:ly P t.o.op aL (cW zC (cW T1 H0)).next=A (v,b):=by rw[<-mo];exact G
    refine On bn q (m.fresh _ aT aX a6) λx aq bL loc bw a7 bE bF bG bH bI bJ bK bx bC bD=> ?_
    have gz:=m.early aT aX a6 a7 bE bF bG bH bI bJ bK bx bC bD;rw[<-bv]at gz;refine aA _ _ (c.next n aP.size aP.closed aw hw (q.mono a7) aI ap (by rw[f];exact bw) (T1:=T1) (T2:=zC++t::zD) ⟨al,λu hu W=> ?_,λu hu aG=> ?_,gz⟩)
    ·grind
    ·have ak:u.i≠t.i:=λe=>by
      have:=c.uniq n al e;grind
     grind
   grind
  |cR v H'=>
   obtain⟨zC,zD,S⟩:=aO (by rw[f];rfl);have ah:T=(T1++zC)++t::zD:=al;have aC:=(c.at ah).2.2.1;rcases sJ aC with⟨_,U⟩|⟨aE,_⟩
   ·rw[f]at U;have G:=nP.congr (λx aE=>(an x aE).symm) U;have y:gr (cW T1 H0) (zC++t::zD):=by
     have:=aj;rw[O,S]at this;exact(gr.append this).2
    have aS:=c.cR;rw[ah]at aS;have aQ:=(y6 aS f).2;rw[S]at m;have M:=gE.turns (zC:=zC) (zD:=t::zD) (L:=c0 g) y (λu hu h=>by
     have af:=nf aP.closed _ _ aZ hw _ (aQ u al h);refine⟨af,?_⟩;cases bp:u.k with
     |new x b=>grind
     |cR x H=>grind
     |_=>rw[bp]at h;cases h) m
    rw[sT al,f]at M;simp only[K.heap]at M;have aD:gr H' zD:=by have:=(gr.append y).2.2;rw[f]at this;exact this
    have bf:c5=cW zD H':=by rw[(lE c.dO).2.1,ah,mo,cW,f];rfl
    have bh:H'.next<=c5.next:=by rw[bf];exact aD.le
    rw[mo]at G;refine K_ (H:=cW zC (cW T1 H0)) (H':=H') bk M.rel ⟨λl r s=>M.fresh l r ad ?_,Env.le_trans bd M.le⟩ G q λx aq bL r s=> ?_
    ·cases aJ:eE (c0 g) zD H' l with
     |none=>rfl
     |some b=>have:=u_ aD aJ;omega
    ·have b0:=M.step s bh (λl b aJ=>u_ aD aJ);refine aA _ _ (c.next n aP.size aP.closed aw hw (q.mono s.le) aI ap (by rw[f];exact r) (T1:=T1++zC++[t]) (T2:=zD) ⟨al,λu hu W=> ?_,λu hu aG=> ?_,?_⟩)
     ·by_cases e:u.i=t.i
      ·grind
      ·rw[z _ e];simp only[List.mem_append,List.mem_singleton]at hu;rcases hu with(hu|hu)|rfl
       ·grind
       ·exact nf aP.closed _ _ aZ hw _ (aQ u al W)
       omega
     ·rw[z _ (Ne.symm (c.after ah hu).1)];grind
     ·have be:cW (T1++zC++[t]) H0=H':=by rw[mo,cW,f];rfl
      rw[be,u9 (L':=c0 g) λu hu v b p=>z _ (Ne.symm (c.after ah hu).1)];omega
   grind
 ·rw[aH];simp only[Bool.false_eq_true,if_false];exact still (by rw[p];rfl) undef (by rw[p];exact .tuple [] [] .nil)
theorem Ctx.any(c:Ctx P call ops ord dh H0 T bo c5)(l:e1 E P call)(k:E.le ρ0)(n:∀ρ a w,eT ρ bo a->Step ρ0 H0 w0 ρ c5 w->Q .normal a w):
  ∀(fuel:Nat) (b:Array Bool) (a:Act) (w:World),Inv ops dh H0 T c5.next ρ0 w0 b a w->(List.range ops.size).countP (λj=> !c0 b j)<=fuel->wpAny P .any ops Q fuel b a w:=by
 have f:∀b a w,Inv ops dh H0 T c5.next ρ0 w0 b a w->Region.ready .any ops b=[]->Q .normal a w:=by
  intro b a w aP ar;obtain⟨ρ,ah,ai⟩:=c.final aP (c.Js aP.size ar);grind
 intro fuel
 induction fuel with
 |zero=>
  intro b a w aP e;have ar:Region.ready .any ops b=[]:=by
   rw[List.eq_nil_iff_forall_not_mem];intro i d;obtain⟨o,ah,ai,ax,aM⟩:=pE d aP.size;grind[List.countP_pos_iff]
  exact⟨ar,f _ _ _ aP ar⟩
 |succ fuel m=>
  intro b a w aP e;refine⟨λar=>f _ _ _ aP ar,λi d=> ?_⟩;obtain⟨o,aZ,aw,hw,g⟩:=pE d aP.size;exact c.step l k aP aZ aw hw g λb1 p h=>m _ _ _ h (count_set (by rw[aP.size];omega) g aw e)
theorem aj3{id:Nat}{a:Act}{w:World}(hm:P.follows .mixedOrders=J)(g:e1 E P call)(c:Ctx P call ops ord dh H0 T bo c5)(f:Rel ρ0 H0 w)(aC:jB E ρ0 H0.next c5.next)(ar:eT ρ0 dh a)
  (e:∀ρ a b,eT ρ bo a->Step ρ0 H0 w ρ c5 b->Q .normal a b):(Code.region id ops J).wp P Q a w:=by
 have h:∀j,c0 (Array.replicate ops.size I) j=false:=λj=>by
  unfold c0;rw[Array.getD_eq_getD_getElem?];grind
 refine wp_region_any hm (c.any (ρ0:=ρ0) (w0:=w.drew) g aC.le (λρ a b ah ai=>e ρ a b ah ?_) _ _ _ _ ⟨aX,λi o _ aw=>absurd aw al,ρ0,[],T,rfl,aX,λt _ _=>h _,?_,dh,ar,rfl,λd=> ?_⟩ ?_)
 ·exact⟨ai.le,ai.next,ai.keep,ai.rel,ai.os,ai.tape,ai.output,ai.size,ai.frame,ai.own,ai.ro,ai.olds⟩
 ·have k:eE (c0 (Array.replicate ops.size I)) T (cW [] H0)=λ_=>none:=by
   have:∀(T:List bM) (H:ae),eE (c0 (Array.replicate ops.size I)) T H=λ_=>none:=by
    intro T
    induction T with
    |nil=>intro H;rfl
    |cons t T l=>
     grind[eE]
   grind
  rw[k];exact gE.start f.drew aC.new
 ·grind[vg]
 grind[List.countP_le_length]
