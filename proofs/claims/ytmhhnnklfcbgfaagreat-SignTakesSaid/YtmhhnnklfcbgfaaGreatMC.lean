/-
  Texts of one proof, laid together: Hv12 Hv13 Hv14 Hv15 Hv16.
-/
import Derived.Test.YtmhhnnklfcbgfaaGreatMB
set_option linter.unusedVariables false
set_option linter.unusedSimpArgs false
set_option linter.defProp false
open Option renaming some→A,none→Z
open Bool renaming true→J,false→I
namespace Go.cv
section
variable {P:Program}{ρ:Env}{H:ae}{w:World}{R:bg}{a:Act}
def k6(ρ:Env)(w:World)(loc:Loc):bA->Prop
 | .row ro esz els=>gW ρ w loc ro esz els
 | .map es=>Er ρ w loc es
 | .ee t esz els=>ps ρ w loc t esz els
 | .dead=>True
 | .old _ _ _=>True
theorem k6.frame{k:Env}{g:World}{loc:Loc}{b:bA}(h:k6 ρ w loc b)(hle:ρ.le k)(m:g.heap[loc.block]? =w.heap[loc.block]?):k6 k g loc b:=by
 cases b with
 |row ro esz els=>
  obtain⟨d,c,t,l,f,a,o⟩:=h;refine⟨d,c,t,l,al,a,λi e he=> ?_⟩;obtain⟨p,q⟩:=o i e he;refine⟨p,λj v n=> ?_⟩;obtain⟨r,x,s,u⟩:=q j v n;exact⟨r,x,s,u.mono hle⟩
 |map es=>
  obtain⟨ents,clock,d,f,a⟩:=h;exact⟨ents,clock,al,f.mono hle,a.mono hle⟩
 |ee t esz els=>exact ps.frame h hle m
 |dead=>trivial
 |old=>trivial
theorem k6.lt{loc:Loc}{b:bA}(h:k6 ρ w loc b)(a:b.iR=J):loc.block<w.heap.size:=by
 cases b with
 |row ro esz els=>obtain⟨_,c,t,d,f,_⟩:=h;grind
 |map es=>obtain⟨ents,clock,e,_⟩:=h;grind
 |ee t esz els=>exact h.1.lt
 |dead=>cases a
 |old=>cases a
theorem Rel.grow{n:Env}{m:World}(h:Rel ρ H w)(hle:ρ.le n)(v:w.heap.size<=m.heap.size)(i:∀b,b<w.heap.size->m.heap[b]? =w.heap[b]?):Rel n H m:=by
 refine⟨λl ro esz els e=> ?_,λl es e=> ?_,λl t esz els e=> ?_,λl y loc f ah ai u p q=> ?_,λl s esz els e=>(h.old l s esz els e).step hle v (λb r _=>i b r) ?_⟩
 rotate_left 4
 ·rintro b ⟨k,loc,bS,b2,x⟩;left;have d:∃f,ρ k=A f:=by
   rcases bS with⟨esz,els,d⟩|⟨es,d⟩|⟨t,esz,els,d⟩
   ·obtain⟨f,a,_⟩:=h.row _ _ _ _ d;grind
   ·obtain⟨f,a,_⟩:=h.map _ _ d;grind
   ·obtain⟨f,a,_⟩:=h.ee _ _ _ _ d;grind
  obtain⟨f,a⟩:=d;obtain rfl:f=loc:=Option.some.inj ((hle _ _ a).symm.trans b2);exact⟨k,f,bS,a,x⟩
 ·obtain⟨loc,a,g⟩:=h.row l ro esz els e;refine⟨loc,hle _ _ a,?_⟩;have:=g;obtain⟨_,c,t,z,j,_⟩:=this;exact k6.frame (b:= .row ro esz els) g hle (i _ (z6 j))
 ·obtain⟨loc,a,g⟩:=h.map l es e;refine⟨loc,hle _ _ a,?_⟩;have:=g;obtain⟨_,_,j,_⟩:=this;exact k6.frame (b:= .map es) g hle (i _ (z6 j))
 ·obtain⟨loc,a,g⟩:=h.ee l t esz els e;exact⟨loc,hle _ _ a,g.frame hle (i _ g.1.lt)⟩
 ·have o:∀k loc,H.live k->n k=A loc->ρ k=A loc:=λk loc d e=>by
   rcases d with⟨ro,esz,els,d⟩|⟨es,d⟩|⟨t,esz,els,d⟩
   ·obtain⟨f,a,_⟩:=h.row _ _ _ _ d;rw[hle _ _ a]at e;grind
   ·obtain⟨f,a,_⟩:=h.map _ _ d;rw[hle _ _ a]at e;grind
   ·obtain⟨f,a,_⟩:=h.ee _ _ _ _ d;rw[hle _ _ a]at e;grind
  exact h.apart l y loc f ah ai u (o _ _ ah.live p) (o _ _ ai q)
theorem Rel.F5(h:Rel ρ H w){l:Nat}(ar:H.live l):∃loc,ρ l=A loc/\loc.block<w.heap.size:=by
 rcases ar with⟨ro,esz,els,a⟩|⟨es,a⟩|⟨t,esz,els,a⟩
 ·obtain⟨loc,b,_,c,t,f,e,_⟩:=h.row _ _ _ _ a;grind
 ·obtain⟨loc,b,_,_,e,_⟩:=h.map _ _ a;grind
 ·obtain⟨loc,b,d⟩:=h.ee _ _ _ _ a;exact⟨loc,b,d.1.lt⟩
theorem Ve{o:Oper}{l:Nat}{v:af}{b:bA}(h:lV P o.op R l=A (v,b))(au:e1 ρ R a)(aB:ρ l=Z)(w:World):
  ∃x d e loc,(execOp a.eval o).run P w= .ok (.value x) d/\bC e v x/\ρ.le e/\(∀k,k≠l->e k=ρ k)/\e l=A loc/\w.heap.size<=loc.block/\b.iR=J/\k6 e d loc b/\
   d.os=w.os/\d.tape=w.tape/\d.output=w.output/\w.heap.size<=d.heap.size/\∀k,k<w.heap.size->d.heap[k]? =w.heap[k]? :=by
 unfold lV g5 at h;split at h
 ·rename_i B H' q;split at h
  ·rename_i aL;split at h
   ·rename_i b' f;split at h
    ·rename_i g;simp only[bE,dV]at h;obtain⟨rfl,rfl⟩:=h;obtain⟨x,d,e,n,p,c⟩:=Vc (Rel.empty ρ w l) aB q au;have j:∀k,¬e5 ρ ⟨.leaf,l⟩ k:=by
      rintro k ⟨y,loc,ah,_,_⟩;have s:(⟨.leaf,l⟩:ae).get y=none:=by grind[ae.get,bJ.s8]
      rcases ah with⟨_,_,h⟩|⟨_,h⟩|⟨_,_,_,h⟩<;>(rw[s]at h;cases h)
     have u:H'.rw l:=by
      cases b' with
      |row ro esz els=>cases ro with
       |true=>cases g
       |false=>exact .inl ⟨_,_,f⟩
      |map es=>exact .inr (.inl ⟨_,f⟩)
      |ee t esz els=>exact .inr (.inr ⟨_,_,_,f⟩)
      |dead=>cases g
      |old=>cases g
     have r:∃loc,e l=A loc/\k6 e d loc b':=by
      cases b' with
      |row ro esz els=>exact c.rel.row _ _ _ _ f
      |map es=>exact c.rel.map _ _ f
      |ee t esz els=>exact c.rel.ee _ _ _ _ f
      |dead=>cases g
      |old=>cases g
     obtain⟨loc,m,z⟩:=r;refine⟨x,d,e,loc,n,p,c.le,λk i=>c.keep k ?_,m,?_,g,z,c.os,c.tape,c.output,c.size,λk i=>c.frame k i (j k)⟩
     ·grind
     ·exact(c.own loc.block ⟨l,loc,u,m,rfl⟩).resolve_left (j _)
    grind
   grind
  grind
 grind
structure gR(ρ0:Env)(H0:ae)(w0:World)(N:Nat)(j9:Nat->Option bA)(ρ:Env)(H:ae)(w:World):Prop where
 vS:Rel ρ0 H0 w0
 le:ρ0.le ρ
 next:H0.next<=H.next
 keep:∀l,l<H0.next\/N<=l->ρ l=ρ0 l
 rel:Rel ρ H w
 os:w.os=w0.os
 tape:w.tape=w0.tape
 output:w.output=w0.output
 size:w0.heap.size<=w.heap.size
 frame:∀b,b<w0.heap.size->¬e5 ρ0 H0 b->w.heap[b]? =w0.heap[b]?
 own:∀b,e5 ρ H b->e5 ρ0 H0 b\/w0.heap.size<=b
 ro:∀l esz els,H.get l=some (.row true esz els)->H0.get l=some (.row true esz els)
 olds:ze ρ0 H0 w0 ρ H
 vH:∀k s esz els loc l b a,H.get k=some (.old s esz els)->ρ k=some loc->j9 l=some b->ρ l=some a->loc.block≠a.block
 fresh:∀l,H.next<=l->l<N->j9 l=none->ρ l=none
 kV:∀l b,j9 l=some b->H.next<=l/\l<N/\b.iR=true/\∃loc,ρ l=some loc/\k6 ρ w loc b/\w0.heap.size<=loc.block/\¬e5 ρ H loc.block
 sep:∀l c b b' loc a,j9 l=some b->j9 c=some b'->l≠c->ρ l=some loc->ρ c=some a->loc.block≠a.block
variable {ρ0:Env}{H0:ae}{w0:World}{N:Nat}{j9:Nat->Option bA}
theorem gR.start(h:Rel ρ0 H0 w0)(aB:J3 ρ0 H0.next N):gR ρ0 H0 w0 N (λ_=>Z) ρ0 H0 w0:=
 ⟨h,ρ0.le_refl,aa,λ_ _=>rfl,h,rfl,rfl,rfl,aa,λ_ _ _=>rfl,λ_ h=> .inl h,λ_ _ _ h=>h,.same λ_ _ _ _ h=>h,al,λl a b _=>aB l a b,λ_ _ h=>al,al⟩
def gR.done(m:gR ρ0 H0 w0 N j9 ρ H w)(a:H.next=N):Step ρ0 H0 w0 ρ H w:=
 ⟨m.le,m.next,λl ar=>m.keep l aa,m.rel,m.os,m.tape,m.output,m.size,m.frame,m.own,m.ro,m.olds⟩
theorem gR.step{K:Env}{H':ae}{G:World}(m:gR ρ0 H0 w0 N j9 ρ H w)(s:Step ρ H w K H' G)(M:H'.next<=N)(Q:∀l b,j9 l=A b->H'.next<=l):gR ρ0 H0 w0 N j9 K H' G where
 vS:=m.vS
 le:=Env.le_trans m.le s.le
 next:=Nat.le_trans m.next s.next
 keep:=λl ar=>(s.keep l (ar.imp (λh=>Nat.lt_of_lt_of_le h m.next) (λh=>Nat.le_trans M h))).trans (m.keep l ar)
 rel:=s.rel
 os:=s.os.trans m.os
 tape:=s.tape.trans m.tape
 output:=s.output.trans m.output
 size:=Nat.le_trans m.size s.size
 frame:=λb n aL=>by
  rw[s.frame b (Nat.lt_of_lt_of_le n m.size) (λaX=>(m.own b aX).elim aL (λhle=>aa)),m.frame b n aL]
 own:=λb n=>(s.own b n).elim (λaX=>m.own b aX) (λhle=> .inr (Nat.le_trans m.size hle))
 ro:=λl esz els e=>m.ro l esz els (s.ro l esz els e)
 olds:=λl u esz els e=>by
  rcases s.olds l u esz els e with⟨s1,t,r,f⟩|⟨loc,f,i⟩
  ·exact(m.olds l s1 t r f).imp id λ⟨loc,i,j⟩=>⟨loc,s.le _ _ i,j⟩
  ·exact .inr ⟨loc,f,i.elim (λj=>m.own _ j) λj=> .inr (Nat.le_trans m.size j)⟩
 vH:=λk u esz els loc l b x e f h i=>by
  obtain⟨_,_,o,z,d,p,_,B⟩:=m.kV l b h;obtain rfl:z=x:=Option.some.inj ((s.le _ _ d).symm.trans i);rcases s.olds k u esz els e with⟨s1,t,r,q⟩|⟨y,q,g⟩
  ·obtain⟨R,g,_⟩:=m.rel.old _ _ _ _ q;obtain rfl:R=loc:=Option.some.inj ((s.le _ _ g).symm.trans f);exact m.vH k s1 t r _ l b _ q g h d
  ·obtain rfl:y=loc:=Option.some.inj (q.symm.trans f);rcases g with g|g
   ·grind
   ·have:=p.lt o;omega
 fresh:=λl a b c=>by rw[s.keep l (.inr a)];exact m.fresh l (Nat.le_trans s.next a) b c
 kV:=λl b h=>by
  obtain⟨U,S,o,loc,d,p,T,B⟩:=m.kV l b h;have O:=p.lt o;refine⟨Q l b h,S,o,loc,s.le _ _ d,p.frame s.le (s.frame _ O B),T,λaX=> ?_⟩;rcases s.own _ aX with h|h
  ·grind
  omega
 sep:=λl v b b' loc x h cD P e L=>by
  obtain⟨_,_,_,y,d,_⟩:=m.kV l b h;obtain⟨_,_,_,z,E,_⟩:=m.kV v b' cD;have ah:=s.le _ _ d;rw[e]at ah;cases ah;have ai:=s.le _ _ E;rw[L]at ai;cases ai;exact m.sep l v b b' _ _ h cD P d E
theorem gR.early{g:Env}{f:World}{l:Nat}{b:bA}{loc:Loc}(m:gR ρ0 H0 w0 N j9 ρ H w)(ar:H.next<=l)(U:l<N)(am:j9 l=Z)
  (hle:ρ.le g) (q:∀k,k≠l->g k=ρ k) (y:g l=A loc) (W:w.heap.size<=loc.block) (ad:b.iR=J) (V:k6 g f loc b) (aa:f.os=w.os) (ae:f.tape=w.tape) (ab:f.output=w.output)
  (G:w.heap.size<=f.heap.size) (x:∀k,k<w.heap.size->f.heap[k]? =w.heap[k]?):gR ρ0 H0 w0 N (λk=>if k=l then A b else j9 k) g H f:=by
 have hold:∀k c,H.live k->g k=A c->ρ k=A c:=λk c q e=>by
  obtain⟨t,u,_⟩:=m.rel.F5 q;have:=hle _ _ u;grind
 have E:∀k,e5 g H k->e5 ρ H k:=by
  rintro k ⟨K,c,ah,ai,ay⟩;exact⟨K,c,ah,hold _ _ ah.live ai,ay⟩
 have ak:∀k,e5 ρ H k->k<w.heap.size:=by
  rintro k ⟨K,c,ah,ai,ay⟩;obtain⟨t,u,P⟩:=m.rel.F5 ah.live;grind
 refine⟨m.vS,Env.le_trans m.le hle,m.next,λk h=> ?_,m.rel.grow hle G x,aa.trans m.os,ae.trans m.tape,ab.trans m.output,Nat.le_trans m.size G,λk ah ai=> ?_,
  λk h=>m.own k (E k h),m.ro,λk s esz els e=>(m.olds k s esz els e).imp id λ⟨loc,B,T⟩=>⟨loc,hle _ _ B,T⟩,λk s esz els t z i L e S h B=> ?_,λk ah ai ay=> ?_,λk b' h=> ?_,λk o i v t L h cD Y e p=> ?_⟩
 ·rw[q k (by have:=m.next;omega)];exact m.keep k h
 ·rw[x k (Nat.lt_of_lt_of_le ah m.size)];exact m.frame k ah ai
 ·obtain⟨M,Q,an,_⟩:=m.rel.old _ _ _ _ e;obtain rfl:M=t:=Option.some.inj ((hle _ _ Q).symm.trans S);by_cases a:z=l
  ·grind
  ·simp only[a,if_false]at h;obtain⟨_,_,_,O,d,_⟩:=m.kV z i h;obtain rfl:O=L:=al;exact m.vH k s esz els _ z i _ e Q h d
 ·by_cases a:k=l
  ·grind
  ·simp only[a,if_false]at ay;rw[q k a];exact m.fresh k ah ai ay
 ·by_cases a:k=l
  ·subst a;simp only[if_true,bE]at h;subst h;exact⟨ar,U,ad,loc,y,V,Nat.le_trans m.size W,al⟩
  ·simp only[a,if_false]at h;obtain⟨u,P,j,c,d,n,af,aj⟩:=m.kV k b' h;exact⟨u,P,j,c,hle _ _ d,n.frame hle (x _ (n.lt j)),af,λaX=>aj (E _ aX)⟩
 ·by_cases a:k=l
  ·by_cases r:o=l
   ·omega
   ·subst a;simp only[r,if_false]at cD;obtain⟨_,_,j,c,d,n,_,_⟩:=m.kV o v cD;have:=hle _ _ d;rw[p]at this;cases this;rw[y]at e;cases e;have:=n.lt j;omega
  ·by_cases r:o=l
   ·subst r;simp only[a,if_false]at h;obtain⟨_,_,j,c,d,n,_,_⟩:=m.kV k i h;have:=hle _ _ d;rw[e]at this;cases this;rw[y]at p;cases p;have:=n.lt j;omega
   ·simp only[a,if_false]at h;simp only[r,if_false]at cD;obtain⟨_,_,_,M,d,_⟩:=m.kV k i h;obtain⟨_,_,_,O,R,_⟩:=m.kV o v cD;have ah:=hle _ _ d;rw[e]at ah;cases ah;have ai:=hle _ _ R;rw[p]at ai;cases ai;exact m.sep k o i v _ _ h cD Y d R
theorem gR.uH{b:bA}(m:gR ρ0 H0 w0 N j9 ρ H w)(z:j9 H.next=A b):gR ρ0 H0 w0 N (λk=>if k=H.next then Z else j9 k) ρ (H.push b) w:=by
 obtain⟨_,Y,o,loc,f,B,ad,U⟩:=m.kV _ _ z;have G:∀k,(H.push b).rw k->k≠H.next->H.rw k:=(by grind[ae.rw,ae.eI])
 have T:∀k,(H.push b).live k->k≠H.next->H.live k:=(by grind[ae.live,ae.eI])
 have R:∀k a,H.live k->ρ k=A a->a.block≠loc.block:=by
  intro k a d e heq;by_cases au:H.rw k
  ·exact U ⟨k,a,au,e,heq⟩
  ·rcases d with⟨ro,esz,els,d⟩|d
   ·cases ro with
    |false=>exact au (.inl ⟨_,_,d⟩)
    |true=>
     have Q:=m.ro _ _ _ d;obtain⟨ab,j,q⟩:=m.vS.F5 (.inl ⟨_,_,_,Q⟩);have:=m.le _ _ j;grind
   ·exact au (.inr d)
 have y:∀k,e5 ρ (H.push b) k->e5 ρ H k\/k=loc.block:=by
  rintro k ⟨c,a,ah,ai,ay⟩;by_cases ar:c=H.next
  ·grind
  ·exact .inl ⟨c,a,G _ ah ar,ai,ay⟩
 have S:b.ri=false:=by cases b<;>first|rfl|cases o
 refine⟨m.vS,m.le,by have:=m.next;simp;omega,m.keep,⟨λl ro esz els h=> ?_,λl es h=> ?_,λl t esz els h=> ?_,λl c i p h cD x e g=> ?_,λl s esz els h=> ?_⟩,m.os,m.tape,m.output,m.size,m.frame,
  λk h=> ?_,λl esz els h=>m.ro l esz els (ae.G3 (bA.iR.ro o) l esz els h),λk s esz els e=>m.olds k s esz els (by grind[ae.rB]),λk s esz els i K v p e O h P=> ?_,λl ah ai ay=> ?_,λl b' h=> ?_,λl c v L i p h cD x e g=> ?_⟩
 ·by_cases ar:l=H.next
  ·subst ar;rw[ae.a1]at h;simp only[bE]at h;subst h;exact⟨loc,f,B⟩
  ·rw[ae.eI ar]at h;exact m.rel.row _ _ _ _ h
 ·by_cases ar:l=H.next
  ·subst ar;rw[ae.a1]at h;simp only[bE]at h;subst h;exact⟨loc,f,B⟩
  ·rw[ae.eI ar]at h;exact m.rel.map _ _ h
 ·by_cases ar:l=H.next
  ·subst ar;rw[ae.a1]at h;simp only[bE]at h;subst h;exact⟨loc,f,B⟩
  ·rw[ae.eI ar]at h;exact m.rel.ee _ _ _ _ h
 ·by_cases ar:l=H.next
  ·grind
  ·by_cases n:c=H.next
   ·subst n;rw[f]at g;cases g;exact R l i (G _ h ar).live e
   ·exact m.rel.apart l c i p (G _ h ar) (T _ cD n) x e g
 ·by_cases ar:l=H.next
  ·subst ar;rw[ae.a1]at h;rw[Option.some.inj h]at o;cases o
  ·rw[ae.eI ar]at h;obtain⟨a,j,V,q⟩:=m.rel.old _ _ _ _ h;refine⟨a,j,V,q.imp id λE=>⟨E.1,λr=> ?_⟩⟩;rcases y _ r with u|u
   ·grind
   ·exact m.vH l s esz els _ _ _ _ h j z f u
 ·rcases y k h with h|rfl
  ·exact m.own k h
  omega
 ·have M:=ae.rB S _ _ _ _ e;by_cases ar:K=H.next
  ·grind
  ·simp only[ar,if_false]at h;exact m.vH k s esz els _ K v _ M O h P
 ·simp only[ae.fW]at ah;have ar:l≠H.next:=aa
  simp only[ar,if_false]at ay;exact m.fresh l aa ai ay
 ·by_cases ar:l=H.next
  ·grind
  ·simp only[ar,if_false]at h;obtain⟨j,q,E,a,r,u,W,af⟩:=m.kV l b' h;refine⟨by simp;omega,q,E,a,r,u,W,λaX=> ?_⟩;rcases y _ aX with cD|cD
   ·grind
   ·exact m.sep l H.next b' b a loc h z ar r f cD
 ·by_cases ar:l=H.next
  ·grind
  ·by_cases n:c=H.next
   ·grind
   ·simp only[ar,if_false]at h;simp only[n,if_false]at cD;exact m.sep l c v L i p h cD x e g
end
def nD(P:Program)(H:ae)(r:af)(name:String):Option (Nat×af):=
 match r with
 | .iface t v=>(match P.info? t with
  |some i=>(match i.methods.find? (·.name==name)with
   |some m=>(match m.path.toList,m.func,P.underlying t with
    |[],A (f,J),A (.pointer _)=>A (f,v)
    |[],A (f,I),A (.pointer e)=>(match v with
     | .ptr .. =>(aJ P H e v).bind λu=>A (f,u)
     |_=>Z)
    |_,_,_=>Z)
   |none=>Z)
  |none=>Z)
 |_=>Z
def Rw{P:Program}{w:World}{n:Nat}{t:TypeId}{v:Value}{name:String}{i:TypeInfo}{m:Method}{f:FuncId}{b:Bool}(aP:P.info? t=A i)(hm:i.methods.find? (·.name==name)=A m)(a:m.path.toList=[])(aB:m.func=A (f,b)){x:Value}
  (aF:(receiverAt t (.val v) b (A ((name.splitOn ".").getLastD name))).run P w= .ok x w):(method (n+1) t v name).run P w= .ok (f,x) w:=by
 have c:m.path.isEmpty=true:=fH a;have d:(typeInfo t).run P w= .ok i w:=by simp[typeInfo,aP]
 unfold method;simp only[Sem.run_bind,d,Result.andThen_ok,hm,a,follow,Sem.run_pure,aB,c,if_true,aF]
def U9{P:Program}{ρ:Env}{H:ae}{w:World}(q:Rel ρ H w){r u:af}{dc:Value}{name:String}{f:Nat}(h:nD P H r name=A (f,u))(au:bC ρ r dc)(args:Array Value):
  ∃k,bC ρ u k/\(callMethod dc name args).run P w=(callFunc f (#[k]++args)).run P w:=by
 unfold nD at h;split at h
 ·rename_i t v;cases au with|iface _ _ n b=>
  split at h
  ·rename_i i aP;split at h
   ·rename_i m hm;have d:P.types.size+Made.depth=(P.types.size+99)+1:=rfl;split at h
    ·rename_i a aB hu;simp only[bE,dV]at h;obtain⟨rfl,rfl⟩:=h;refine⟨n,b,?_⟩;simp only[callMethod,Sem.run_bind,run_program,Result.andThen_ok,d];rw[Rw (x:=n) aP hm a aB (by simp only[receiverAt,Sem.run_bind,run_underlying hu,Result.andThen_ok,Place.get,Sem.run_pure])];rfl
    ·rename_i e a aB hu;split at h
     ·rename_i l j c;simp only[e4,bE,dV]at h;obtain⟨z,ah,rfl,rfl⟩:=h;obtain⟨x,y,o⟩:=EE q ah b;cases b with|ptr _ _ _ loc ar=>
      refine⟨x,o,?_⟩;have p:(loadVar e ⟨loc.block,loc.off+j*loc.esz+c,Z⟩).run P w= .ok x w:=by grind[Instr.loadAt,Instr.sureAddr]
      have s:∀g:String,(Builtin.ssaWrapNilChk_ #[t] t #[.pointer (A ⟨loc.block,loc.off+j*loc.esz+c,Z⟩),strVal "",strVal g]).run P w= .ok (.pointer (A ⟨loc.block,loc.off+j*loc.esz+c,Z⟩)) w:=λg=>rfl
      simp only[callMethod,Sem.run_bind,run_program,Result.andThen_ok,d];rw[Rw (x:=x) aP hm a aB (by simp only[receiverAt,Sem.run_bind,run_underlying hu,Result.andThen_ok,Place.get,Sem.run_pure,s,asAddr,p])];rfl
     grind
    grind
   grind
  grind
 grind
def ou(P:Program)(H:ae)(R:bg)(c:Call):Option (Nat×List af):=
 match c.callee with
 | .value f=>match cx R f with
  |some (.func (.func g) first captured)=>match jf R c.args.toList with
   |some ak=>A (g,first++ak++captured)
   |none=>Z
  |_=>Z
 | .invoke r name=>match cx R r with
  |some v=>match nD P H v name,jf R c.args.toList with
   |some (g,u),A ak=>A (g,u::ak)
   |_,_=>Z
  |none=>Z
 |_=>Z
inductive K where
 |skip
 |pure (v:af)
 |read (v:af)
 |new (v:af) (b:bA)
 |cV (v:af) (H:ae)
def K.val:K->af
 | .skip=> .tuple []
 | .pure v=>v
 | .read v=>v
 | .new v _=>v
 | .cV v _=>v
def K.heap(H:ae):K->ae
 | .new _ b=>H.push b
 | .cV _ H'=>H'
 |_=>H
def K.fS:K->Bool
 | .new _ _=>J
 | .cV _ _=>J
 |_=>I
abbrev ao:=Nat->List af->ae->Option (af×ae)
def nK:Option af->Option K
 |some v=>A (.pure v)
 |none=>Z
def ma:Option af->Option K
 |some v=>A (.read v)
 |none=>Z
def vs:Option (af×bA)->Option K
 |some (v,b)=>A (.new v b)
 |none=>Z
def kQ(H:ae):Option (af×ae)->Option K
 |some (v,H')=>if H.next<=H'.next then A (.cV v H')else Z
 |none=>Z
inductive cK where
 |pure|read|both|new|write|call
def cls:Op->cK
 | .load .. => .read
 | .lookup .. => .read
 | .alloc _=> .new
 | .box .. => .new
 | .buildSlice .. => .new
 | .makeMap .. => .new
 | .makeSlice .. => .new
 | .store .. => .write
 | .mapUpdate .. => .write
 | .insert .. => .write
 | .convert .. => .both
 | .call c=>match c.callee with
  | .builtin .append=> .write
  | .builtin .clear=> .write
  | .builtin _=> .both
  |_=> .call
 |_=> .pure
def h9(P:Program)(call:ao)(o:Op)(R:bg)(H:ae):Option K:=
 match cls o with
 | .pure=>nK (jV P o R)
 | .read=>ma (iN P o R H)
 | .both=>match jV P o R with
  |some v=>A (.pure v)
  |none=>ma (iN P o R H)
 | .new=>vs (lV P o R H.next)
 | .write=>kQ H (mF P o R H)
 | .call=>match o with
  | .call c=>match ou P H R c with
   |some (g,ak)=>kQ H (call g ak H)
   |none=>Z
  |_=>Z
theorem ajk{P:Program}{call:ao}{o:Op}{R:bg}{H:ae}{v:af}{b:bA}(h:h9 P call o R H=A (.new v b)):b.iR=true:=by
 unfold h9 at h;split at h
 ·cases au:jV P o R<;>rw[au]at h<;>simp[nK]at h
 ·cases au:iN P o R H<;>rw[au]at h<;>simp[ma]at h
 ·split at h
  ·cases h
  ·cases au:iN P o R H<;>rw[au]at h<;>simp[ma]at h
 ·unfold vs at h;split at h
  ·rename_i aL;cases h;exact ac8 aL
  grind
 ·unfold kQ at h;grind
 ·split at h
  ·split at h
   ·unfold kQ at h;grind
   grind
  grind
def re(o:Op):Bool:=match cls o with
 | .new=>J
 | .write=>J
 | .call=>J
 |_=>I
theorem ajg{P:Program}{call:ao}{o:Op}{R:bg}{H:ae}{k:K}(h:h9 P call o R H=A k)(a:k.fS=J):re o=true:=by
 unfold h9 at h;unfold re;split at h
 ·unfold nK at h;split at h
  ·simp only[bE]at h;subst h;cases a
  grind
 ·unfold ma at h;split at h
  ·simp only[bE]at h;subst h;cases a
  grind
 ·split at h
  ·simp only[bE]at h;subst h;cases a
  ·unfold ma at h;split at h
   ·simp only[bE]at h;subst h;cases a
   grind
 ·grind
 ·grind
 grind
def oh(P:Program)(call:ao)(o:Op)(R:bg)(H:ae):K->Prop
 | .skip=>False
 | .pure v=>jV P o R=A v
 | .read v=>iN P o R H=A v
 | .new v b=>lV P o R H.next=A (v,b)
 | .cV v H'=>H.next<=H'.next/\(mF P o R H=A (v,H')\/∃c g ak,o= .call c/\ou P H R c=A (g,ak)/\call g ak H=A (v,H'))
theorem aji{P:Program}{call:ao}{o:Op}{R:bg}{H:ae}{k:K}(h:h9 P call o R H=A k):oh P call o R H k:=by
 unfold h9 at h;split at h
 ·unfold nK at h;split at h
  ·rename_i v a;simp only[bE]at h;subst h;exact a
  grind
 ·unfold ma at h;split at h
  ·rename_i v a;simp only[bE]at h;subst h;exact a
  grind
 ·split at h
  ·rename_i v a;simp only[bE]at h;subst h;exact a
  ·unfold ma at h;split at h
   ·rename_i v a;simp only[bE]at h;subst h;exact a
   grind
 ·unfold vs at h;split at h
  ·rename_i v b a;simp only[bE]at h;subst h;exact a
  grind
 ·unfold kQ at h;split at h
  ·rename_i v H' a;split at h
   ·rename_i aL;simp only[bE]at h;subst h;exact⟨aL,.inl a⟩
   grind
  grind
 ·split at h
  ·rename_i c _;split at h
   ·rename_i g ak aA;unfold kQ at h;split at h
    ·rename_i v H' a;split at h
     ·rename_i aL;simp only[bE]at h;subst h;exact⟨aL,al⟩
     grind
    grind
   grind
  grind
section congr
variable {P:Program}{R bk:bg}
theorem sL:∀{xs:List Operand},(∀x∈xs,cx R x=cx bk x)->jf R xs=jf bk xs
 |[],_=>rfl
 |x::xs,h=>by
  simp only[jf,h x aW,sL (xs:=xs) λy a=>h y al]
theorem EL:∀{xs:List (Nat×Operand)},(∀x∈xs.map (·.2),cx R x=cx bk x)->lf R xs=lf bk xs
 |[],_=>rfl
 |(i,x)::xs,h=>by
  simp only[lf,h x aW,EL (xs:=xs) al]
theorem ET{x:Option Operand}(h:∀y,x=A y->cx R y=cx bk y):mE R x=mE bk x:=by
 cases x with
 |none=>rfl
 |some x=>grind[mE]
theorem Vs{o:Op}(h:∀x∈o.operands,cx R x=cx bk x):jV P o R=jV P o bk:=by
 cases o<;>simp only[jV,Op.operands]at h ⊢ <;>first
  |rfl
  |(simp at h;simp[h];done)
  |skip
 ·grind[EL]
 ·grind[sL]
 ·rename_i t x gr aP b;rw[h x aW,ET (x:=gr) λy a=>h y al,ET (x:=aP) λy a=>h y al,ET (x:=b) λy a=>h y al]
 grind[Call.operands,sL]
theorem KD{o:Op}{H:ae}(h:∀x∈o.operands,cx R x=cx bk x):iN P o R H=iN P o bk H:=by
 cases o<;>simp only[iN,Op.operands]at h ⊢ <;>first
  |rfl
  |(simp at h;simp[h];done)
  |skip
 grind[Call.operands,sL]
theorem Vb{o:Op}{H:ae}(h:∀x∈o.operands,cx R x=cx bk x):qT P o R H=qT P o bk H:=by
 cases o<;>simp only[qT,Op.operands]at h ⊢ <;>first
  |rfl
  |(simp at h;simp[h];done)
  |skip
 ·grind[EL]
 grind
theorem Vd{o:Op}{l:Nat}(h:∀x∈o.operands,cx R x=cx bk x):lV P o R l=lV P o bk l:=by
 grind[lV,Vb]
theorem VJ{o:Op}{H:ae}(h:∀x∈o.operands,cx R x=cx bk x):mF P o R H=mF P o bk H:=by
 cases o<;>simp only[mF,Op.operands]at h ⊢ <;>first
  |rfl
  |(simp at h;simp[h];done)
  |skip
 ·rename_i c;cases aA:c.callee with
  |builtin b=>
   simp only[Call.operands,aA]at h ⊢;cases a:c.args.toList with
   |nil=>grind
   |cons s r=>
    cases r with
    |nil=>
     have ah:s∈c.args.toList:=al;grind
    |cons x r=>
     cases r with
     |nil=>
      have ah:s∈c.args.toList:=al;have ai:x∈c.args.toList:=al;grind
     |cons y r=>grind
  |value f=>rfl
  |invoke r m=>rfl
theorem UH{c:Call}{H:ae}(h:∀x∈c.operands,cx R x=cx bk x):ou P H R c=ou P H bk c:=by
 unfold ou;cases aA:c.callee with
 |builtin b=>rfl
 |value f=>
  grind[Call.operands,sL]
 |invoke r m=>
  grind[Call.operands,sL]
theorem oh.congr{call:ao}{o:Op}{H:ae}{k:K}(h:∀x∈o.operands,cx R x=cx bk x)(a:oh P call o R H k):oh P call o bk H k:=by
 cases k with
 |skip=>exact a
 |pure v=>exact(Vs h).symm.trans a
 |read v=>exact(KD h).symm.trans a
 |new v b=>exact(Vd h).symm.trans a
 |cV v H'=>
  obtain⟨ah,ai|⟨c,g,ak,rfl,ai,ay⟩⟩:=a
  ·exact⟨ah,(by grind[VJ])⟩
  ·exact⟨ah,.inr ⟨c,g,ak,rfl,(UH h).symm.trans ai,ay⟩⟩
end congr
def pt(P:Program)(m:Sem Next)(w:World)(next:Value->World->Prop):Prop:=
 match m.run P w with
 | .ok (.value x) a=>next x a
 | .ok (.enter f args) a=>Calls P f args a λ
  | .returned x,b=>next x b
  |_,_=>False
 |_=>False
def hE(E:Env)(P:Program)(g:Nat)(args:List af)(H:ae)(v:af)(H':ae):Prop:=∀(ρ:Env) (w:World) (xs:List Value),Rel ρ H w->jL E ρ H.next H'.next->bZ ρ args xs->H.next<=H'.next->∀next:Value->World->Prop,(∀x a b,bC b v x->Step ρ H w b H' a->next x a)->pt P (callFunc g xs.toArray) w next
def e_(E:Env)(P:Program)(call:ao):Prop:=∀g args H v H',call g args H=A (v,H')->hE E P g args H v H'
section
variable {E:Env}{P:Program}{call:ao}{ρ:Env}{H H':ae}{w:World}{R:bg}{a:Act}{o:Oper}{v:af}{kB:Act->World->Prop}{Q:Exit->Act->World->Prop}
def Qy(h:jV P o.op R=A v)(au:e1 ρ R a)(d:∀x,bC ρ v x->kB (a.put o.dst x) w):o.wp P a w kB Q:=by
 obtain⟨x,b,c⟩:=Vt h au w;unfold Oper.wp;rw[b];exact d x c
def QO(d:Rel ρ H w)(h:iN P o.op R H=A v)(au:e1 ρ R a)(e:∀x,bC ρ v x->kB (a.put o.dst x) w):o.wp P a w kB Q:=by
 obtain⟨x,b,c⟩:=Vx d h au;unfold Oper.wp;rw[b];exact e x c
def PD{l:Nat}{b:bA}(h:lV P o.op R l=A (v,b))(au:e1 ρ R a)(aB:ρ l=Z)
  (y:∀x c d loc,bC d v x->ρ.le d->(∀k,k≠l->d k=ρ k)->d l=A loc->w.heap.size<=loc.block->b.iR=J->k6 d c loc b->
   c.os=w.os->c.tape=w.tape->c.output=w.output->w.heap.size<=c.heap.size->(∀k,k<w.heap.size->c.heap[k]? =w.heap[k]?)->kB (a.put o.dst x) c):o.wp P a w kB Q:=by
 obtain⟨x,c,d,loc,e,m,n,p,q,r,s,t,u,f,g,i,j⟩:=Ve h au aB w;unfold Oper.wp;rw[e];exact y x c d loc m n p q r s t u f g i j
theorem Mj(B:e_ E P call)(k:Rel ρ H w)(aB:jL E ρ H.next H'.next)(h:oh P call o.op R H (.cV v H'))(au:e1 ρ R a)
  (G:∀x d i,bC i v x->Step ρ H w i H' d->kB (a.put o.dst x) d):o.wp P a w kB Q:=by
 obtain⟨aL,ah|⟨c,g,ak,aA,ai,ay⟩⟩:=h
 ·obtain⟨n,x,d,i,M,j,s,t⟩:=VK k ah (aB.new _ aa) au;unfold Oper.wp;rw[M];unfold J2 at j;split at j
  ·subst j;exact G _ d i s t
  ·subst j;exact G _ d i s t
  grind
 ·unfold ou at ai;split at ai
  ·rename_i f y;split at ai
   ·rename_i l first captured S
    split at ai
    ·rename_i W q;simp only[bE,dV]at ai;obtain⟨rfl,rfl⟩:=ai;have aM:=eE au S;have m:=qW au q;generalize he:a.eval f=z at aM;cases aM with|func _ _ _ O L r K=>
     have b:=B _ _ _ _ _ ay ρ w _ k aB ((r.append m).append K) aL (λx d=>kB (a.put o.dst x) d) aa;have p:(execOp a.eval o).run P w=(callFunc l ((O++c.args.toList.map a.eval++L).toArray)).run P w:=by
      grind[execOp,resolve,Deferred.ofValue,invoke,map_toArray]
     unfold Oper.wp;rw[p];unfold pt at b;split at b
     ·rename_i e;rw[e];exact b
     ·rename_i e;rw[e];refine Calls.mono b λN Y T=> ?_
      grind
     grind
    grind
   grind
  ·rename_i rv name y;split at ai
   ·rename_i v0 U;split at ai
    ·rename_i l u W hm q;simp only[bE,dV]at ai;obtain⟨rfl,rfl⟩:=ai;have aM:=eE au U;have m:=qW au q;obtain⟨V,r,K⟩:=U9 k hm aM (c.args.toList.map a.eval).toArray;have b:=B _ _ _ _ _ ay ρ w _ k aB (.cons _ _ _ _ r m) aL (λx d=>kB (a.put o.dst x) d) aa;have p:(execOp a.eval o).run P w=(callFunc l ((V::c.args.toList.map a.eval).toArray)).run P w:=by
      unfold execOp;rw[aA];simp only[resolve,y,pure_bind,invoke];grind[map_toArray]
     unfold Oper.wp;rw[p];unfold pt at b;split at b
     ·rename_i e;rw[e];exact b
     ·rename_i e;rw[e];refine Calls.mono b λN Y T=> ?_
      grind
     grind
    grind
   grind
  grind
end
def lk(acc:List Nat):List Edge->Nat
 |[]=>0
 |e::es=>if Region.binds .any e then 2^e.on|||(acc[e.on]?.getD 0|||lk acc es)else lk acc es
def oP:List Oper->List Nat->List Nat
 |[],acc=>acc
 |o::os,acc=>oP os (acc++[lk acc o.after.toList])
def cQ(ops:Array Oper):List Nat:=oP ops.toList []
def cI(ms:List Nat)(j i:Nat):Bool:=(ms[i]?.getD 0).testBit j
def OU:∀(os pre:List Oper) (acc:List Nat),acc.length=pre.length->(∀i o,pre[i]? =A o->acc[i]? =A (lk (acc.take i) o.after.toList))->
  ∀i o,(pre++os)[i]? =A o->(oP os acc)[i]? =A (lk ((oP os acc).take i) o.after.toList)
 |[],pre,acc,ar,h,i,o,aX=>by grind[oP]
 |p::os,pre,acc,ar,h,i,o,aX=>by
  unfold oP;refine OU os (pre++[p]) _ al (λj q a=> ?_) i o al;grind
theorem Aw{ops:Array Oper}{i:Nat}{o:Oper}(h:ops[i]? =A o):(cQ ops)[i]? =A (lk ((cQ ops).take i) o.after.toList):=
 OU ops.toList [] [] rfl aW i o al
theorem zQ{acc:List Nat}{e:Edge}:∀{es:List Edge},e∈es->Region.binds .any e=J->(lk acc es).testBit e.on=J
 |[],h,_=>al
 |d::es,h,a=>by
  unfold lk;rcases List.mem_cons.1 h with rfl|h
  ·grind
  ·split
   ·simp[zQ h a]
   ·exact zQ h a
def zP{acc:List Nat}{j:Nat}:∀{es:List Edge},(lk acc es).testBit j=J->∃e∈es,Region.binds .any e=J/\(j=e.on\/(acc[e.on]?.getD 0).testBit j=J)
 |[],h=>by simp[lk]at h
 |d::es,h=>by
  unfold lk at h;split at h
  ·rename_i a;simp only[Nat.testBit_or,Bool.or_eq_true]at h;rcases h with h|h|h
   ·grind
   ·grind
   ·obtain⟨e,ah,ai,ay⟩:=zP h;grind
  ·obtain⟨e,ah,ai,ay⟩:=zP h;grind
def mz(L:Nat->Bool)(o:Oper):Prop:=∀e∈o.after,Region.binds .any e=J->L e.on=J
def uM(ops:Array Oper)(L:Nat->Bool):Prop:=∀i o,ops[i]? =A o->L i=J->mz L o
theorem nE{ops:Array Oper}{L:Nat->Bool}(aA:uM ops L):∀(i:Nat) (o:Oper),ops[i]? =A o->mz L o->∀j,cI (cQ ops) j i=J->L j=true:=by
 intro i
 induction i using Nat.strongRecOn with
 |_ i f=>
  intro o aX hw j a;unfold cI at a;rw[Aw aX]at a;simp only[Option.getD_some]at a;obtain⟨e,ah,ai,ay⟩:=zP a;have d:=hw e al ai;rcases ay with rfl|ay
  ·omega
  ·rcases Nat.lt_or_ge e.on i with b|g
   ·rw[List.getElem?_take_of_lt b]at ay;cases c:ops[e.on]? with
    |none=>
     grind
    |some g6=>exact f e.on b g6 c (aA _ _ c d) j ay
   grind
def V0{ops:Array Oper}{i:Nat}{o:Oper}(aX:ops[i]? =A o){e:Edge}(he:e∈o.after)(a:Region.binds .any e=J):cI (cQ ops) e.on i=true:=by
 grind[cI,Aw,zQ]
def kj(ops:Array Oper)(R:bg)(o:Oper):Bool:=
 match o.guard with
 |none=>J
 |some (j,want)=>match ops[j]? with
  |some q=>(match q.dst with
   |some d=>(match R.get d with
    | .bool b=>b==want
    |_=>I)
   |none=>I)
  |none=>I
def KP{ρ:Env}{ops:Array Oper}{R:bg}{a:Act}(au:e1 ρ R a)(o:Oper):Region.wanted o (yielded ops a.tmps)=kj ops R o:=by
 unfold Region.wanted kj;cases aR:o.guard with
 |none=>rfl
 |some p=>
  obtain⟨j,want⟩:=p;simp only
  unfold yielded;cases e:ops[j]? with
  |none=>simp
  |some q=>
   cases b:q.dst with
   |none=>grind
   |some d=>
    simp only[Option.bind_some,b];have ah:=au.get d;rw[Array.getD_eq_getD_getElem?]at ah;cases a_:a.tmps[d]? with
    |none=>
     rw[a_]at ah;simp only[Option.getD_none]at ah;generalize c:R.get d=v at ah;cases v<;>first|rfl|(exfalso;cases ah)
    |some x=>
     rw[a_]at ah;simp only[Option.getD_some]at ah;generalize c:R.get d=v at ah;cases ah<;>first|rfl|(simp;done)
def VI{ops:Array Oper}{R bk:bg}{o:Oper}(h:∀d∈o.looksAt ops,R.get d=bk.get d):kj ops R o=kj ops bk o:=by
 unfold kj;cases aR:o.guard with
 |none=>rfl
 |some p=>
  grind[Oper.looksAt]
def VG{ops:Array Oper}{R bk:bg}{o:Oper}(h:∀d∈o.looksAt ops,R.get d=bk.get d):∀x∈o.op.operands,cx R x=cx bk x:=by
 intro x aF;cases x with
 |tmp t=>
  simp only[cx];rw[h t ?_];unfold Oper.looksAt;refine List.mem_append.2 (.inl ?_);rw[List.mem_filterMap];exact⟨.tmp t,al,rfl⟩
 |const v=>rfl
 |global g=>rfl
 |func f=>rfl
structure bN where
 i:Nat
 o:Oper
 R:bg
 k:K
def gB(P:Program)(call:ao)(ops:Array Oper)(o:Oper)(R:bg)(H:ae):Option K:=
 match kj ops R o with
 |true=>h9 P call o.op R H
 |false=>A .skip
def abp{P:Program}{call:ao}{ops:Array Oper}{o:Oper}{R:bg}{H:ae}{v:af}{b:bA}(h:gB P call ops o R H=A (.new v b)):b.iR=true:=by
 grind[gB,ajk]
def canRun(P:Program)(call:ao)(ops:Array Oper):List Nat->bg->ae->Option (List bN×bg×ae)
 |[],R,H=>A ([],R,H)
 |i::is,R,H=>match ops[i]? with
  |none=>Z
  |some o=>match gB P call ops o R H with
   |none=>Z
   |some k=>match R.put o.dst k.val with
    |none=>Z
    |some bk=>match canRun P call ops is bk (k.heap H)with
     |none=>Z
     |some (T,br,c_)=>A (⟨i,o,R,k⟩::T,br,c_)
def c1:List bN->ae->ae
 |[],H=>H
 |t::ts,H=>c1 ts (t.k.heap H)
theorem mM(zA B:List bN)(H:ae):c1 (zA++B) H=c1 B (c1 zA H):=by
 induction zA generalizing H with
 |nil=>rfl
 |cons t zA a=>simp[c1,a]
def gN(L:Nat->Bool)(d:Nat):List bN->af->af
 |[],v=>v
 |t::ts,v=>gN L d ts (if L t.i=J/\t.o.dst=A d then t.k.val else v)
def oV(L:Nat->Bool)(d:Nat)(zA B:List bN)(v:af):gN L d (zA++B) v=gN L d B (gN L d zA v):=by
 induction zA generalizing v with
 |nil=>rfl
 |cons t zA a=>simp[gN,a]
theorem vQ{L L':Nat->Bool}{d:Nat}:∀{zA:List bN} {v:af},(∀t∈zA,t.o.dst=A d->L t.i=L' t.i)->gN L d zA v=gN L' d zA v
 |[],_,_=>rfl
 |t::zA,v,h=>by
  simp only[gN];have:(L t.i=J/\t.o.dst=A d)↔(L' t.i=J/\t.o.dst=A d):=by
   grind
  simp only[this];exact vQ λu hu=>h u al
theorem vR{L:Nat->Bool}{d:Nat}:∀{zA:List bN} {v:af},(∀t∈zA,t.o.dst=A d->L t.i=I)->gN L d zA v=v
 |[],_,_=>rfl
 |t::zA,v,h=>by
  simp only[gN];rw[if_neg al];exact vR λu hu=>h u al
def l3{P:Program}{call:ao}{ops:Array Oper}:∀{is:List Nat} {R:bg} {H:ae} {T:List bN} {br:bg} {c_:ae},canRun P call ops is R H=A (T,br,c_)->
  T.map (·.i)=is/\c_=c1 T H/\br.size=R.size/\∀d,br.get d=gN (λ_=>J) d T (R.get d)
 |[],R,H,T,br,c_,h=>by
  simp only[canRun,bE,dV]at h;obtain⟨rfl,rfl,rfl⟩:=h;exact⟨rfl,rfl,rfl,λ_=>rfl⟩
 |i::is,R,H,T,br,c_,h=>by
  simp only[canRun]at h;split at h
  ·cases h
  ·rename_i o aX;split at h
   ·cases h
   ·rename_i k m;split at h
    ·cases h
    ·rename_i bk l;split at h
     ·cases h
     ·rename_i e c b cD;simp only[bE,dV]at h;obtain⟨rfl,rfl,rfl⟩:=h;obtain⟨f,a,g,j⟩:=l3 cD;refine⟨al,a,by grind[bg.size_put],λd=> ?_⟩;grind[bg.s9,gN]
def zG{P:Program}{call:ao}{ops:Array Oper}:∀{zA:List bN} {is:List Nat} {R:bg} {H:ae} {t:bN} {B:List bN} {br:bg} {c_:ae},canRun P call ops is R H=A (zA++t::B,br,c_)->
  ops[t.i]? =A t.o/\(∀d,t.R.get d=gN (λ_=>J) d zA (R.get d))/\gB P call ops t.o t.R (c1 zA H)=A t.k/\(∀d,t.o.dst=A d->d<R.size)
 |zA,[],R,H,t,B,br,c_,h=>by
  simp only[canRun,bE,dV]at h;have:=h.1;simp at this
 |zA,i::is,R,H,t,B,br,c_,h=>by
  simp only[canRun]at h;split at h
  ·cases h
  ·rename_i o aX;split at h
   ·cases h
   ·rename_i k f;split at h
    ·cases h
    ·rename_i bk a;split at h
     ·cases h
     ·rename_i l j g cD;simp only[bE,dV]at h;obtain⟨ah,rfl,rfl⟩:=h;cases zA with
      |nil=>
       simp only[List.nil_append,List.cons.injEq]at ah;obtain⟨rfl,rfl⟩:=ah;refine⟨aX,λ_=>rfl,f,λd b=> ?_⟩;simp only at b;rw[b]at a;exact bg.QD a
      |cons u zA=>
       simp only[List.cons_append,List.cons.injEq]at ah;obtain⟨rfl,rfl⟩:=ah;obtain⟨c,m,e,n⟩:=zG cD;refine⟨c,λd=> ?_,e,(by grind[bg.size_put])⟩;grind[bg.s9,gN]
def gH:ae->List bN->Prop
 |_,[]=>True
 |H,t::ts=>H.next<=(t.k.heap H).next/\gH (t.k.heap H) ts
theorem gH.append:∀{zA B:List bN} {H:ae},gH H (zA++B)->gH H zA/\gH (c1 zA H) B
 |[],_,_,h=>⟨trivial,h⟩
 |_::zA,_,_,h=>by
  obtain⟨ah,ai⟩:=h;obtain⟨ay,aM⟩:=gH.append (zA:=zA) ai;exact⟨⟨ah,ay⟩,aM⟩
def gH.le:∀{zA:List bN} {H:ae},gH H zA->H.next<=(c1 zA H).next
 |[],_,_=>ds _
 |_::zA,_,h=>Nat.le_trans h.1 (gH.le (zA:=zA) h.2)
def tf{P:Program}{call:ao}{ops:Array Oper}{o:Oper}{R:bg}{H:ae}{k:K}(h:gB P call ops o R H=A k):
  (kj ops R o=J/\oh P call o.op R H k)\/(kj ops R o=I/\k= .skip):=by
 grind[gB,aji]
def N1{P:Program}{call:ao}{ops:Array Oper}{o:Oper}{R:bg}{H:ae}{k:K}(h:gB P call ops o R H=A k)(a:k.fS=J):re o.op=true:=by
 unfold gB at h;split at h
 ·grind[ajg]
 ·simp only[bE]at h;subst h;cases a
def FI{P:Program}{call:ao}{ops:Array Oper}{o:Oper}{R:bg}{H:ae}{k:K}(h:gB P call ops o R H=A k):H.next<=(k.heap H).next:=by
 rcases tf h with⟨_,h⟩|⟨_,rfl⟩
 ·cases k with
  |cV v H'=>exact h.1
  |new v b=>simp[K.heap]
  |_=>exact ds _
 ·exact ds _
def sR{P:Program}{call:ao}{ops:Array Oper}:∀{is:List Nat} {R:bg} {H:ae} {T:List bN} {br:bg} {c_:ae},canRun P call ops is R H=A (T,br,c_)->gH H T
 |[],R,H,T,br,c_,h=>by
  simp only[canRun,bE,dV]at h;obtain⟨rfl,rfl,rfl⟩:=h;trivial
 |i::is,R,H,T,br,c_,h=>by
  simp only[canRun]at h;split at h
  ·cases h
  ·rename_i o aX;split at h
   ·cases h
   ·rename_i k a;split at h
    ·cases h
    ·split at h
     ·cases h
     ·rename_i d c b cD;simp only[bE,dV]at h;obtain⟨rfl,rfl,rfl⟩:=h;exact⟨FI a,sR cD⟩
def eL(L:Nat->Bool):List bN->ae->Nat->Option bA
 |[],_,_=>Z
 |t::ts,H,l=>match t.k with
  | .new _ b=>if l=H.next then(if L t.i=J then A b else Z)else eL L ts (H.push b) l
  |k=>eL L ts (k.heap H) l
def vK{L:Nat->Bool}:∀{T:List bN} {H:ae} {l:Nat} {b:bA},gH H T->eL L T H l=A b->H.next<=l
 |[],_,_,_,_,h=>by cases h
 |t::ts,H,l,b,hm,h=>by
  unfold eL at h;split at h
  ·rename_i v b' a;split at h
   ·omega
   ·have:=vK (by have:=hm.2;rwa[a]at this) h;simp at this;omega
  ·have ah:=hm.1;have:=vK hm.2 h;omega
def vJ{L L':Nat->Bool}:∀{T:List bN} {H:ae},(∀t∈T,∀v b,t.k= .new v b->L t.i=L' t.i)->eL L T H=eL L' T H
 |[],_,_=>rfl
 |t::ts,H,h=>by
  funext l
  unfold eL;split
  ·rename_i v b a;rw[h t aW v b a,vJ (T:=ts) (λu hu=>h u al)]
  ·rw[vJ (T:=ts) (λu hu=>h u al)]
def tv{L:Nat->Bool}{t:bN}{ts:List bN}{H:ae}(h:∀v b,t.k≠ .new v b):eL L (t::ts) H=eL L ts (t.k.heap H):=by
 funext l
 show(match t.k with
  | .new _ b=>if l=H.next then(if L t.i=J then A b else Z)else eL L ts (H.push b) l
  |k=>eL L ts (k.heap H) l)=_
 split
 ·grind
 ·rfl
def Qi{L L':Nat->Bool}{t:bN}{v:af}{b:bA}(a_:t.k= .new v b)(d:L t.i=I)(e:L' t.i=J):∀{zC zD:List bN} {H:ae},gH H (zC++t::zD)->
  (∀u∈zC,L u.i=L' u.i)->(∀u∈zD,L u.i=L' u.i)->
  eL L' (zC++t::zD) H=(λk=>if k=(c1 zC H).next then A b else eL L (zC++t::zD) H k)/\eL L (zC++t::zD) H (c1 zC H).next=Z
 |[],zD,H,hm,g,a=>by
  constructor
  ·funext k
   simp only[List.nil_append,c1,eL,a_,d,e,if_true,Bool.false_eq_true,if_false];rw[vJ (T:=zD) λu hu _ _ _=>a u hu];grind
  grind[eL,c1]
 |c::zC,zD,H,hm,g,a=>by
  obtain⟨ah,ai⟩:=hm;obtain⟨j,l⟩:=Qi a_ d e (zC:=zC) (zD:=zD) ai al a;by_cases aA:∃f b',c.k= .new f b'
  ·obtain⟨f,b',aA⟩:=aA;have hle:(c.k.heap H).next<=(c1 zC (c.k.heap H)).next:=(gH.append ai).1.le
   grind[K.heap,ae.fW,eL,c1]
  ·have aL:∀v b,c.k≠ .new v b:=λv b h=>aA ⟨v,b,h⟩
   rw[List.cons_append,tv aL,tv aL,c1];grind
def vI(ops:Array Oper)(ms:List Nat)(i j:Nat):Bool:=
 match ops[i]?,ops[j]? with
 |some o,A q=>(i != j)&&(!cI ms j i)&&(cI ms i j||o.apart ops q)
 |_,_=>I
def AO(ops:Array Oper)(ms:List Nat):List Nat->Bool
 |[]=>J
 |i::is=>is.all (vI ops ms i)&&AO ops ms is
def Qg{ops:Array Oper}{ms:List Nat}:∀{is:List Nat},AO ops ms is=J->is.Pairwise λi j=>vI ops ms i j=J
 |[],_=> .nil
 |i::is,h=>by
  simp only[AO,Bool.and_eq_true,List.all_eq_true]at h;exact .cons h.1 (Qg h.2)
def Mh(n:Nat)(o:Oper):Bool:=o.after.toList.all λe=> !Region.binds .any e||decide (e.on<n)
def rC(ops:Array Oper)(ms ord:List Nat):Bool:=(List.range ops.size).all (λi=>ord.contains i)&&(ord.all (λi=> !cI ms i i)&&(ops.toList.all (Mh ops.size)&&AO ops ms ord))
def kK(ms:List Nat):List bN->List Nat->Bool
 |[],_=>J
 |t::ts,ids=>match t.k with
  | .cV _ _=>ids.all (λj=>cI ms j t.i)&&kK ms ts (t.i::ids)
  | .new _ _=>kK ms ts (t.i::ids)
  |_=>kK ms ts ids
def zR{ms:List Nat}:∀{zA:List bN} {t:bN} {B:List bN} {ids:List Nat} {v:af} {H:ae},kK ms (zA++t::B) ids=J->t.k= .cV v H->
  (∀j∈ids,cI ms j t.i=J)/\∀u∈zA,u.k.fS=J->cI ms u.i t.i=J
 |[],t,B,ids,v,H,h,a_=>by
  grind[kK]
 |c::zA,t,B,ids,v,H,h,a_=>by
  simp only[List.cons_append,kK]at h;split at h
  ·simp only[Bool.and_eq_true]at h;obtain⟨ah,ai⟩:=zR h.2 a_;grind
  ·obtain⟨ah,ai⟩:=zR h a_;grind
  ·rename_i e f;obtain⟨ah,ai⟩:=zR h a_;refine⟨ah,λu hu a=> ?_⟩;rcases List.mem_cons.1 hu with rfl|hu
   ·exfalso;cases d:u.k with
    |new v b=>grind
    |cV v H=>grind
    |_=>rw[d]at a;cases a
   grind
def g9(ms:List Nat)(rd:ae->Bool)(i:Nat):List bN->ae->Bool
 |[],H=>rd H
 |t::ts,H=>if t.k.fS then(cI ms t.i i||rd H)&&(cI ms i t.i||g9 ms rd i ts (t.k.heap H))else g9 ms rd i ts H
theorem z7{k:K}(h:k.fS=I)(H:ae):k.heap H=H:=by
 cases k<;>first|rfl|cases h
def JQ{ms:List Nat}{rd:ae->Bool}{i:Nat}:∀{zA B:List bN} {H:ae},g9 ms rd i (zA++B) H=J->(∀u∈zA,u.k.fS=J->cI ms i u.i=I)->
  (∀u c,B=u::c->u.k.fS=J/\cI ms u.i i=I)->rd (c1 zA H)=J
 |[],[],H,h,_,_=>h
 |[],u::B,H,h,_,a=>by
  grind[g9,c1]
 |t::zA,B,H,h,d,a=>by
  simp only[List.cons_append,g9]at h;split at h
  ·rename_i b;simp only[Bool.and_eq_true,Bool.or_eq_true,d t aW b]at h;rw[c1];exact JQ (h.2.resolve_left aW) al a
  ·rename_i b;rw[c1,z7 al];exact JQ h al a
def lE(P:Program)(o:Op)(R:bg)(v:af)(H:ae):Bool:=
 match iN P o R H with
 |some u=>af.beq u v
 |none=>I
def QN{P:Program}{o:Op}{R:bg}{v:af}{H:ae}(h:lE P o R v H=J):iN P o R H=A v:=by
 grind[lE,af.beq_eq]
def ae.only(H:ae):ae:=match H.get (H.next-1)with
 |some b=>⟨bJ.put b H.next .leaf (H.next-1),H.next⟩
 |none=>⟨.leaf,H.next⟩
def ae.tr{H:ae}{b:bA}{l:Nat}{x:bA}(h:(H.push b).only.get l=A x):l=H.next/\x=b:=by
 grind[get,ae.a1,ae.only,ae.fW,bJ.vk,bJ.s_,bJ.s8]
def kR(k:K):Bool:=match k with
 | .cV _ _=>I
 |_=>J
def qZ(ms:List Nat)(i:Nat):List bN->Bool->Bool
 |[],_=>I
 |t::ts,s=>match t.k with
  | .new _ _=>(s&&cI ms t.i i&&ts.all λu=>kR u.k)||qZ ms i ts (s|| !cI ms t.i i)
  | .cV _ _=>qZ ms i ts (s|| !cI ms t.i i)
  |_=>qZ ms i ts s
def m2(ms:List Nat)(rd:ae->Bool)(i:Nat):List bN->ae->Bool->Bool
 |[],_,_=>I
 |t::ts,H,s=>match t.k with
  | .new _ b=>bif s&&cI ms t.i i&&ts.all (λu=>kR u.k)then rd (H.push b).only||m2 ms rd i ts (H.push b) (s|| !cI ms t.i i)else m2 ms rd i ts (H.push b) (s|| !cI ms t.i i)
  | .cV _ H'=>m2 ms rd i ts H' (s|| !cI ms t.i i)
  |_=>m2 ms rd i ts H s
def PB{ms:List Nat}{rd:ae->Bool}{i:Nat}:∀{T:List bN} {H:ae} {s:Bool},m2 ms rd i T H s=J->
  ∃zA u B v b,T=zA++u::B/\u.k= .new v b/\cI ms u.i i=J/\(∀x∈B,kR x.k=J)/\rd ((c1 zA H).push b).only=J
 |[],H,s,h=>by cases h
 |t::ts,H,s,h=>by
  have c:∀{H':ae} {d:Bool},t.k.heap H=H'->m2 ms rd i ts H' d=J->∃zA u B v b,t::ts=zA++u::B/\u.k= .new v b/\cI ms u.i i=J/\(∀x∈B,kR x.k=J)/\rd ((c1 zA H).push b).only=true:=by
   intro H' d e cD;obtain⟨zA,u,B,v,b,f,g,j,l,m⟩:=PB cD;grind[c1]
  unfold m2 at h;split at h
  ·rename_i v b a;have n:t.k.heap H=H.push b:=by rw[a];rfl
   cases aA:(s&&cI ms t.i i&&ts.all λu=>kR u.k)with
   |true=>
    rw[aA,hk,Bool.or_eq_true]at h;simp only[Bool.and_eq_true,List.all_eq_true]at aA;rcases h with h|h
    ·exact⟨[],t,ts,v,b,rfl,a,aA.1.2,aA.2,h⟩
    grind
   |false=>grind
  ·rename_i v H' a;exact c (by rw[a];rfl) h
  ·rename_i ah ai;refine c (z7 ?_ H) h;cases a:t.k with
   |new v b=>grind
   |cV v H'=>grind
   |_=>rfl
def sa(ms:List Nat)(rd:ae->Bool)(i:Nat)(T:List bN)(H:ae):Bool:=bif qZ ms i T I then g9 ms rd i T H||m2 ms rd i T H I else g9 ms rd i T H
def ahB{ms:List Nat}{rd:ae->Bool}{i:Nat}{T:List bN}{H:ae}(h:sa ms rd i T H=J):g9 ms rd i T H=J\/m2 ms rd i T H I=true:=by
 grind[sa]
def np(P:Program)(ms:List Nat)(cT:Nat->Bool)(T:List bN)(H:ae):List bN->Bool
 |[]=>J
 |t::ts=>(match t.k with
  | .read v=>cT t.i||sa ms (lE P t.o.op t.R v) t.i T H
  |_=>J)&&np P ms cT T H ts
def Ug{P:Program}{ms:List Nat}{cT:Nat->Bool}{T:List bN}{H:ae}{t:bN}{v:af}(a_:t.k= .read v):∀{ts:List bN},np P ms cT T H ts=J->t∈ts->cT t.i=J\/sa ms (lE P t.o.op t.R v) t.i T H=J
 |[],_,hm=>al
 |u::ts,h,hm=>by
  simp only[np,Bool.and_eq_true]at h;rcases List.mem_cons.1 hm with rfl|hm
  ·grind
  ·exact Ug a_ h.2 hm
section
variable {P:Program}{call:ao}{ops:Array Oper}{ord:List Nat}{dq br:bg}{H0 c_:ae}{T:List bN}{ρ0:Env}{w0:World}{Q:Exit->Act->World->Prop}
def c7(a:Array Bool)(i:Nat):Bool:=a.getD i I
theorem Qe{i j:Nat}{o q:Oper}(aP:ops[i]? =A o)(a:ops[j]? =A q)(h:vI ops (cQ ops) i j=J):
  i≠j/\cI (cQ ops) j i=I/\(cI (cQ ops) i j=J\/o.apart ops q=J):=by
 grind[vI]
def kv(ops:Array Oper)(ms ord:List Nat)(i:Nat):Bool:=
 ord.all λj=>(j==i)||(match ops[j]? with|some o=> !re o.op|none=>J)||cI ms j i||cI ms i j
theorem aj1{ms ord:List Nat}{i j:Nat}{o:Oper}(h:kv ops ms ord i=J)(b:j∈ord)(c:j≠i)(aX:ops[j]? =A o)(a:re o.op=J):cI ms j i=J\/cI ms i j=true:=by
 grind[kv]
structure Ctx(P:Program)(call:ao)(ops:Array Oper)(ord:List Nat)(dq:bg)(H0:ae)(T:List bN)(br:bg)(c_:ae):Prop where
 dU:canRun P call ops ord dq H0=some (T,br,c_)
 GK:rC ops (cQ ops) ord=true
 cV:kK (cQ ops) T []=true
 lL:np P (cQ ops) (kv ops (cQ ops) ord) T H0 T=true
theorem Ctx.Qf(c:Ctx P call ops ord dq H0 T br c_):T.Pairwise λt u=>vI ops (cQ ops) t.i u.i=true:=by
 have h:=c.GK;simp only[rC,Bool.and_eq_true]at h;have ai:=Qg h.2.2.2;rw[<-(l3 c.dU).1]at ai;grind
def Ctx.at(c:Ctx P call ops ord dq H0 T br c_){zA B:List bN}{t:bN}(h:T=zA++t::B):
  ops[t.i]? =A t.o/\(∀d,t.R.get d=gN (λ_=>J) d zA (dq.get d))/\gB P call ops t.o t.R (c1 zA H0)=A t.k/\(∀d,t.o.dst=A d->d<dq.size):=
 zG (by rw[<-h];exact c.dU)
def Ctx.mem(c:Ctx P call ops ord dq H0 T br c_){t:bN}(h:t∈T):ops[t.i]? =A t.o:=by
 obtain⟨zA,B,h⟩:=List.append_of_mem h;exact(c.at h).1
theorem Ctx.before(c:Ctx P call ops ord dq H0 T br c_){zA B:List bN}{t:bN}(h:T=zA++t::B){u:bN}(hu:u∈zA):
  u.i≠t.i/\cI (cQ ops) t.i u.i=I/\(cI (cQ ops) u.i t.i=J\/u.o.apart ops t.o=J):=by
 have a:=c.Qf;rw[h,List.pairwise_append]at a;exact Qe (c.mem al) (c.mem al) (a.2.2 u hu t aW)
theorem Ctx.after(c:Ctx P call ops ord dq H0 T br c_){zA B:List bN}{t:bN}(h:T=zA++t::B){u:bN}(hu:u∈B):
  t.i≠u.i/\cI (cQ ops) u.i t.i=I/\(cI (cQ ops) t.i u.i=J\/t.o.apart ops u.o=J):=by
 have a:=c.Qf;rw[h,List.pairwise_append,List.pairwise_cons]at a;exact Qe (c.mem al) (c.mem al) (a.2.1.1 u hu)
theorem Ctx.looks(c:Ctx P call ops ord dq H0 T br c_){zA B:List bN}{t:bN}(h:T=zA++t::B){L:Nat->Bool}(aA:uM ops L)(hw:mz L t.o)(j:L t.i=I):
  ∀d∈t.o.looksAt ops,gN L d T (dq.get d)=t.R.get d:=by
 intro d k;obtain⟨g,b,_,_⟩:=c.at h;rw[b d,h,oV,gN];rw[if_neg al];rw[vR (zA:=B),vQ (L':=λ_=>J)]
 ·intro u hu f;obtain⟨_,_,ay⟩:=c.before h hu;grind[nE,Oper.apart_spec]
 ·intro u hu f;obtain⟨_,_,ay⟩:=c.after h hu;rcases ay with ay|ay
  ·cases e:L u.i with
   |false=>rfl
   |true=>
    have a:=c.mem (t:=u) al;have:=nE aA _ _ a (aA _ _ a e) _ ay;grind
  grind[Oper.apart_spec]
theorem Ctx.UM(c:Ctx P call ops ord dq H0 T br c_){zA B:List bN}{t:bN}(h:T=zA++t::B){L L':Nat->Bool}(aA:uM ops L)(n:L t.i=I)(l:L' t.i=J)(e:∀j,j≠t.i->L' j=L j)(d:Nat)(v:af):
  gN L' d T v=if t.o.dst=A d then t.k.val else gN L d T v:=by
 have f:∀u∈zA,u.o.dst=A d->L' u.i=L u.i:=λu hu _=>e _ (c.before h hu).1
 have g:∀u∈B,u.o.dst=A d->L' u.i=L u.i:=λu hu _=>e _ (Ne.symm (c.after h hu).1)
 rw[h,oV,oV,vQ f];simp only[gN];rw[vQ g];by_cases a:t.o.dst=A d
 ·rw[if_pos ⟨l,a⟩,if_pos a];refine vR λu hu p=> ?_
  obtain⟨_,_,ay⟩:=c.after h hu;rcases ay with ay|ay
  ·cases m:L u.i with
   |false=>rfl
   |true=>
    have b:=c.mem (t:=u) al;have:=nE aA _ _ b (aA _ _ b m) _ ay;grind
  grind[Oper.apart_spec]
 grind
theorem gR.turns{N:Nat}{ρ:Env}{w:World}{L:Nat->Bool}:∀{zC zD:List bN} {H:ae},gH H (zC++zD)->(∀u∈zC,u.k.fS=J->L u.i=J/\∃v b,u.k= .new v b)->
  gR ρ0 H0 w0 N (eL L (zC++zD) H) ρ H w->gR ρ0 H0 w0 N (eL L zD (c1 zC H)) ρ (c1 zC H) w
 |[],zD,H,_,_,m=>m
 |c::zC,zD,H,hm,j,m=>by
  by_cases a:c.k.fS=J
  ·obtain⟨ar,v,b,d⟩:=j c aW a;have o:eL L (c::zC++zD) H H.next=A b:=by grind[eL]
   have g:=m.uH o;have e:gH (H.push b) (zC++zD):=by have:=hm.2;rw[d]at this;exact this
   have heq:(λk=>if k=H.next then Z else eL L (c::zC++zD) H k)=eL L (zC++zD) (H.push b):=by
    funext k
    by_cases l:k=H.next
    ·rw[if_pos l];cases aH:eL L (zC++zD) (H.push b) k with
     |none=>rfl
     |some b'=>have:=vK e aH;simp at this;omega
    grind[eL]
   rw[heq]at g;have:=gR.turns e al g;rw[c1,d];exact this
  ·have n:∀v b,c.k≠ .new v b:=λv b h=>by rw[h]at a;exact a rfl
   rw[List.cons_append,tv n]at m;have f:=z7 (fH a) H;rw[c1];rw[f]at m ⊢;refine gR.turns ?_ al m;have:=hm.2;rwa[f]at this
structure Inv(ops:Array Oper)(dq:bg)(H0:ae)(T:List bN)(N:Nat)(ρ0:Env)(w0:World)(b:Array Bool)(a:Act)(w:World):Prop where
 size:b.size=ops.size
 closed:uM ops (c7 b)
 mid:∃ρ T1 T2,T=T1++T2/\(∀t∈T1,t.k.fS=true->c7 b t.i=true)/\(∀t∈T2,(∃v H,t.k= .cV v H)->c7 b t.i=false)/\
  gR ρ0 H0 w0 N (eL (c7 b) T2 (c1 T1 H0)) ρ (c1 T1 H0) w/\∃c:bg,e1 ρ c a/\c.size=dq.size/\∀d,c.get d=gN (c7 b) d T (dq.get d)
theorem Ctx.final(c:Ctx P call ops ord dq H0 T br c_){e:Array Bool}{a:Act}{w:World}(aP:Inv ops dq H0 T c_.next ρ0 w0 e a w)(n:∀t∈T,c7 e t.i=J):
  ∃ρ,e1 ρ br a/\Step ρ0 H0 w0 ρ c_ w:=by
 obtain⟨ρ,T1,T2,dU,ah,ai,m,r,f,q,y⟩:=aP.mid;obtain⟨s,j,l,x⟩:=l3 c.dU;have h:=sR c.dU;rw[dU]at h;have p:=(gH.append h).2;have gi:=gR.turns (zC:=T2) (zD:=[]) (L:=c7 e) (fH p) (λu hu g=>by
  have ar:=n u al;refine⟨ar,?_⟩;cases o:u.k with
  |new v b=>grind
  |cV v H=>grind
  |_=>rw[o]at g;cases g) (fH m)
 rw[<-mM,<-dU,<-j]at gi;refine⟨ρ,⟨by rw[l,<-q];exact f.size,λd=> ?_,f.none⟩,gi.done rfl⟩;have:=f.get d;grind[vQ]
theorem p8{a:Array Bool}{i:Nat}(h:i∈Region.ready .any ops a)(d:a.size=ops.size):
  ∃o,ops[i]? =A o/\c7 a i=I/\mz (c7 a) o/\i<ops.size:=by
 unfold Region.ready at h;simp only[List.mem_filter,List.mem_range,Bool.and_eq_true,Bool.not_eq_true']at h;obtain⟨b,ah,ai⟩:=h;have aX:ops[i]? =A ops[i]:=al;refine⟨ops[i],aX,?_,?_,b⟩
 ·grind[c7]
 ·rw[aX]at ai;simp only[Option.map_some,Option.getD_some,Array.all_eq_true']at ai;intro e he c;grind[c7]
theorem AW{a:Array Bool}{i:Nat}{o:Oper}(aX:ops[i]? =A o)(ar:c7 a i=I)(hw:mz (c7 a) o)(d:a.size=ops.size):i∈Region.ready .any ops a:=by
 unfold Region.ready;have c:i<ops.size:=al;simp only[List.mem_filter,List.mem_range,Bool.and_eq_true,Bool.not_eq_true'];refine⟨c,?_,?_⟩
 ·grind[c7]
 ·rw[aX];simp only[Option.map_some,Option.getD_some,Array.all_eq_true'];intro e he;by_cases b:Region.binds .any e=J
  ·have:=hw e he b;grind[c7]
  grind
theorem Ctx.Kr(c:Ctx P call ops ord dq H0 T br c_){a:Array Bool}(m:a.size=ops.size)(aL:Region.ready .any ops a=[]):∀t∈T,c7 a t.i=true:=by
 have f:=c.GK;simp only[rC,Bool.and_eq_true,List.all_eq_true,List.mem_range]at f;obtain⟨g,v,j,_⟩:=f;have k:=(l3 c.dU).1;have key:∀(n:Nat) (zA:List bN) (t:bN) (B:List bN),zA.length=n->T=zA++t::B->c7 a t.i=true:=by
  intro n
  induction n using Nat.strongRecOn with
  |_ n x=>
   intro zA t B hlen h;have aX:=(c.at h).1;cases ar:c7 a t.i with
   |true=>rfl
   |false=>
    have:t.i∈Region.ready .any ops a:=by
     refine AW aX ar (λe he b=> ?_) m;have s:=V0 aX he b;have l:e.on<ops.size:=by
      have ah:=j t.o (by
       grind)
      unfold Mh at ah;rw[List.all_eq_true]at ah;have ai:=ah e (fH he);simpa [b]using ai
     have d:=g e.on l;rw[List.contains_iff_mem,<-k,List.mem_map]at d;obtain⟨u,hu,w⟩:=d;rw[h]at hu;rcases List.mem_append.1 hu with hu|hu
     ·obtain⟨p,q,r⟩:=List.append_of_mem hu;grind
     ·rcases List.mem_cons.1 hu with rfl|hu
      ·grind
      ·exfalso;have ah:=(c.after h hu).2.1;grind
    grind
 intro t a_;obtain⟨zA,B,h⟩:=List.append_of_mem a_;grind
theorem LS{p q:Nat->Bool}{i:Nat}:∀{l:List Nat},i∈l->(∀j,q j=J->p j=J)->p i=J->q i=I->l.countP q<l.countP p
 |[],h,_,_,_=>al
 |j::l,h,himp,a,aH=>by
  have hle:∀l:List Nat,l.countP q<=l.countP p:=λl=>List.countP_mono_left λx _ aF=>himp x aF
  simp only[List.countP_cons];rcases List.mem_cons.1 h with rfl|h
  ·grind
  ·have:=LS h himp a aH;grind
theorem pV{a:Array Bool}{i:Nat}(aP:i<a.size)(j:Nat):c7 (a.setIfInBounds i J) j=if j=i then J else c7 a j:=by
 unfold c7;rw[Array.getD_eq_getD_getElem?,Array.getD_eq_getD_getElem?,Array.getElem?_setIfInBounds];grind
end
section
variable {E:Env}{P:Program}{call:ao}{ops:Array Oper}{ord:List Nat}{dq br:bg}{H0 c_:ae}{T:List bN}{ρ0:Env}{w0:World}{Q:Exit->Act->World->Prop}
def Ctx.uniq(c:Ctx P call ops ord dq H0 T br c_){zA B:List bN}{t:bN}(h:T=zA++t::B){u:bN}(hu:u∈T)(he:u.i=t.i):u=t:=by
 rw[h]at hu;rcases List.mem_append.1 hu with hu|hu
 ·exact absurd he (c.before h hu).1
 ·rcases List.mem_cons.1 hu with rfl|hu
  ·rfl
  ·exact absurd he.symm (c.after h hu).1
def Es(H0:ae)(T:List bN)(N:Nat)(ρ0:Env)(w0:World)(L:Nat->Bool)(ρ:Env)(w:World)(T1 T2:List bN):Prop:=T=T1++T2/\(∀t∈T1,t.k.fS=J->L t.i=J)/\(∀t∈T2,(∃v H,t.k= .cV v H)->L t.i=I)/\gR ρ0 H0 w0 N (eL L T2 (c1 T1 H0)) ρ (c1 T1 H0) w
theorem Ctx.next(c:Ctx P call ops ord dq H0 T br c_){zA B:List bN}{t:bN}(h:T=zA++t::B){b:Array Bool}(H:b.size=ops.size)(aA:uM ops (c7 b))(ar:c7 b t.i=I)
  (hw:mz (c7 b) t.o) {ρ:Env} {f:bg} {a:Act} {x:Value} {w:World} (z:e1 ρ f a) (K:f.size=dq.size) (E:∀d,f.get d=gN (c7 b) d T (dq.get d)) (aF:bC ρ t.k.val x) {T1 T2:List bN}
  (m:Es H0 T c_.next ρ0 w0 (c7 (b.setIfInBounds t.i J)) ρ w T1 T2):Inv ops dq H0 T c_.next ρ0 w0 (b.setIfInBounds t.i J) (a.put t.o.dst x) w:=by
 obtain⟨aX,_,_,u⟩:=c.at h;have G:t.i<b.size:=al;have s:c7 (b.setIfInBounds t.i J) t.i=true:=by grind[pV]
 have l:∀j,j≠t.i->c7 (b.setIfInBounds t.i J) j=c7 b j:=(by grind[pV]);have r:∀j,c7 b j=J->c7 (b.setIfInBounds t.i J) j=true:=al;have y:∃bk,f.put t.o.dst t.k.val=A bk:=by
  cases v:t.o.dst with
  |none=>exact⟨f,rfl⟩
  |some d=>
   have:=u d v;exact⟨{f with t:=bJ.put t.k.val (d+1) f.t d},by grind[bg.put]⟩
 obtain⟨bk,n⟩:=y;refine⟨al,λi o aP q e he p=> ?_,ρ,T1,T2,m.1,m.2.1,m.2.2.1,m.2.2.2,bk,z.put n aF,by grind[bg.size_put],λd=> ?_⟩
 ·by_cases g:i=t.i
  ·subst g;rw[aX]at aP;cases aP;exact r _ (hw e he p)
  ·rw[l i g]at q;exact r _ (aA i o aP q e he p)
 ·rw[bg.s9 n d,c.UM h aA ar s l d,E d]
theorem Ctx.norm(c:Ctx P call ops ord dq H0 T br c_){N:Nat}{L:Nat->Bool}{ρ:Env}{w:World}:∀{T2 T1:List bN},Es H0 T N ρ0 w0 L ρ w T1 T2->
  ∃j e,Es H0 T N ρ0 w0 L ρ w j e/\∀u d,e=u::d->u.k.fS=J/\L u.i=I
 |[],T1,m=>⟨T1,[],m,λu d h=>by cases h⟩
 |u::T2,T1,m=>by
  by_cases o:u.k.fS=J/\L u.i=I
  ·grind
  ·obtain⟨ah,ai,ay,aM⟩:=m;have f:=sR c.dU;rw[ah]at f;have n:=(gH.append f).2;have gi:=gR.turns (zC:=[u]) (zD:=T2) (L:=L) n (λv g a=>by
    have:v=u:=al;subst this;have ar:L v.i=true:=by
     grind
    refine⟨ar,?_⟩;cases l:v.k with
    |new x b=>grind
    |cV x H=>grind
    |_=>rw[l]at a;cases a) aM
   rw[<-mM]at gi;refine c.norm (T2:=T2) (T1:=T1++[u]) ⟨al,λv g a=> ?_,λv g=>ay v al,gi⟩;grind
theorem Qj{L:Nat->Bool}{u:bN}{v:af}{b:bA}(hu:u.k= .new v b)(a:L u.i=J):∀{zC zD:List bN} {H:ae},gH H (zC++u::zD)->eL L (zC++u::zD) H (c1 zC H).next=A b
 |[],zD,H,_=>by grind[eL,c1]
 |c::zC,zD,H,hm=>by
  have f:=Qj hu a (zC:=zC) (zD:=zD) hm.2;have hle:∀{zC:List bN} {H:ae},gH H zC->H.next<=(c1 zC H).next:=by
   intro zC
   induction zC with
   |nil=>intro H _;exact ds _
   |cons x zC d=>intro H h;exact Nat.le_trans h.1 (d h.2)
  by_cases aL:∃v b,c.k= .new v b
  ·obtain⟨g,b',e⟩:=aL;have ai:=hle (gH.append hm.2).1;grind[K.heap,ae.fW,eL,c1]
  ·rw[List.cons_append,tv λv b h=>aL ⟨v,b,h⟩,c1];omega
theorem Fy{l:Nat}:∀{zC:List bN} {H:ae},(∀x∈zC,kR x.k=J)->l<H.next->(c1 zC H).get l=H.get l
 |[],H,_,_=>rfl
 |c::zC,H,d,ar=>by
  have a:=d c aW;rw[c1];cases e:c.k with
  |new v b=>
   rw[Fy al (by grind[K.heap,ae.fW])];exact ae.eI aa
  |cV v H'=>rw[e]at a;cases a
  |_=>exact Fy al ar
theorem Rel.adm{ρ:Env}{H:ae}{w:World}{b:bA}(e:b.ri=I)(h:b≠ .dead->∃loc,ρ H.next=A loc/\k6 ρ w loc b):Rel ρ (H.push b).only w where
 row l ro esz els aR:=by
  obtain⟨rfl,rfl⟩:=ae.tr aR;obtain⟨loc,ah,ai⟩:=h al;exact⟨loc,ah,ai⟩
 map l es aR:=by
  obtain⟨rfl,rfl⟩:=ae.tr aR;obtain⟨loc,ah,ai⟩:=h al;exact⟨loc,ah,ai⟩
 ee l t esz els aR:=by
  obtain⟨rfl,rfl⟩:=ae.tr aR;obtain⟨loc,ah,ai⟩:=h al;exact⟨loc,ah,ai⟩
 apart l f loc g ah ai d _ _:=by
  exfalso;have a:∃x,(H.push b).only.get l=A x:=by
   grind[ae.rw]
  have c:∃x,(H.push b).only.get f=A x:=by
   grind[ae.live]
  obtain⟨x,a⟩:=a;obtain⟨y,c⟩:=c;exact d ((ae.tr a).1.trans (ae.tr c).1.symm)
 old l s esz els aR:=by
  obtain⟨rfl,rfl⟩:=ae.tr aR;cases e
theorem count_set{n i fuel:Nat}{a:Array Bool}(f:i<a.size)(e:i<n)(ar:c7 a i=I)(c:(List.range n).countP (λj=> !c7 a j)<=fuel+1):(List.range n).countP (λj=> !c7 (a.setIfInBounds i J) j)<=fuel:=by
 have b:c7 (a.setIfInBounds i J) i=true:=by grind[pV]
 have:=LS (p:=λj=> !c7 a j) (q:=λj=> !c7 (a.setIfInBounds i J) j) (i:=i) (l:=List.range n) al
  (λj d=>by
   grind[pV]) al al
 omega
theorem Ctx.step(c:Ctx P call ops ord dq H0 T br c_)(bk:e_ E P call)(bd:E.le ρ0){g:Array Bool}{a:Act}{w:World}(aP:Inv ops dq H0 T c_.next ρ0 w0 g a w){i:Nat}{o:Oper}(aX:ops[i]? =A o)(ar:c7 g i=I)(hw:mz (c7 g) o)(bp:i<ops.size)
  {kB:Act->World->Prop} (aA:∀bY ap,Inv ops dq H0 T c_.next ρ0 w0 (g.setIfInBounds i J) bY ap->kB bY ap):wpOp P ops Q i kB a w:=by
 have a2:=c.GK;simp only[rC,Bool.and_eq_true,List.all_eq_true,List.mem_range]at a2;have a0:=a2.1 i bp;rw[List.contains_iff_mem,<-(l3 c.dU).1,List.mem_map]at a0;obtain⟨t,a_,rfl⟩:=a0;have bZ:=c.mem a_;obtain rfl:t.o=o:=al;obtain⟨ρ,T1,T2,O,a9,ba,m,aL,q,aJ,ao⟩:=aP.mid;have bX:t.i<g.size:=by rw[aP.size];omega
 have bg:c7 (g.setIfInBounds t.i J) t.i=true:=by grind[pV]
 have z:∀j,j≠t.i->c7 (g.setIfInBounds t.i J) j=c7 g j:=(by grind[pV]);obtain⟨au,aK,n⟩:=List.append_of_mem a_;have aZ:∀d∈t.o.looksAt ops,aL.get d=t.R.get d:=λd bl=>by rw[ao d];exact c.looks n aP.closed hw ar d bl
 have an:=VG aZ;have bt:Region.wanted t.o (yielded ops a.tmps)=kj ops t.R t.o:=(KP q t.o).trans (VI aZ);unfold wpOp;rw[aX];simp only[bt];have still:t.k.fS=I->∀x,bC ρ t.k.val x->kB (a.put t.o.dst x) w:=by
  intro h x aF;refine aA _ _ (c.next n aP.size aP.closed ar hw q aJ ao aF (T1:=T1) (T2:=T2) ⟨O,λu hu W=> ?_,λu hu aG=> ?_,?_⟩)
  ·grind
  ·have ak:u.i≠t.i:=λe=>by
    have:=c.uniq n al e;subst this;obtain⟨v,H,p⟩:=aG;rw[p]at h;cases h
   grind
  ·rw[vJ (L':=c7 g) λu hu v b p=>z _ λe=>by
    have:=c.uniq n al e;subst this;rw[p]at h;cases h]
   exact m
 rcases tf (c.at n).2.2.1 with⟨aI,p⟩|⟨aI,p⟩
 ·rw[aI];simp only[if_true];refine .inl ?_;have aO:t.k.fS=J->∃zC zD,T2=zC++t::zD:=λh=>by
   rw[O]at a_;rcases List.mem_append.1 a_ with a_|a_
   ·grind
   ·exact List.append_of_mem a_
  have aj:=sR c.dU;cases f:t.k with
  |skip=>rw[f]at p;exact p.elim
  |pure v=>
   rw[f]at p;have G:=oh.congr (λx aF=>(an x aF).symm) p;exact Qy G q λx aF=>still (by rw[f];rfl) x (by rw[f];exact aF)
  |read v=>
   obtain⟨Y,ax,⟨f1,f2,f3,f4⟩,f5⟩:=c.norm (ρ0:=ρ0) (w0:=w0) (N:=c_.next) (L:=c7 g) (ρ:=ρ) (w:=w) (T2:=T2) (T1:=T1) ⟨O,a9,ba,m⟩;have am:∃av,Rel ρ av w/\iN P t.o.op t.R av=A v:=by
    rcases Ug f c.lL a_ with bm|bs
    ·
      refine⟨_,f4.rel,?_⟩;have bT:iN P t.o.op t.R (c1 au H0)=A v:=by
       rcases tf (c.at n).2.2.1 with⟨_,aV⟩|⟨aF,_⟩
       ·rw[f]at aV;exact aV
       grind
      have aU:∀u∈T,u.k.fS=J->u.i≠t.i/\(cI (cQ ops) u.i t.i=J\/cI (cQ ops) t.i u.i=J):=λu hu h=>by
       have ak:u.i≠t.i:=λe=>by
        have:=c.uniq n hu e;subst this;rw[f]at h;cases h
       obtain⟨bM,bO,ah⟩:=List.append_of_mem hu;refine⟨ak,aj1 bm ?_ ak (c.at ah).1 (N1 (c.at ah).2.2.1 h)⟩;rw[<-(l3 c.dU).1,List.mem_map];grind
      have bU:∀u∈au,u.k.fS=J->c7 g u.i=true:=λu hu h=>by
       rcases(aU u al h).2 with ah|ah
       ·exact nE aP.closed _ _ aX hw _ ah
       ·have:=(c.before n hu).2.1;grind
      have bS:∀u∈aK,u.k.fS=J->c7 g u.i=false:=λu hu h=>by
       have a4:u∈T:=al;rcases(aU u a4 h).2 with ah|ah
       ·have:=(c.after n hu).2.1;grind
       ·cases af:c7 g u.i with
        |false=>rfl
        |true=>
         have V:=c.mem a4;have:=nE aP.closed _ _ V (aP.closed _ _ V af) _ ah;grind
      have aE:Y++ax=au++t::aK:=al;rcases List.append_eq_append_iff.1 aE with⟨bY,bi,bj⟩|⟨aN,aR,ad⟩
      ·cases bY with
       |nil=>grind
       |cons u bP=>
        grind
      ·have bW:∀(zX:List bN) (H:ae),(∀u∈zX,u.k.fS=I)->c1 zX H=H:=by
        intro zX
        induction zX with
        |nil=>intro H _;rfl
        |cons u zX b0=>grind[c1,z7]
       grind[mM]
    ·rcases ahB bs with a5|bq
     rotate_left
     ·obtain⟨zA,u,B,b2,b,r,s,bb,bR,bc⟩:=PB bq;have a3:b.iR=true:=abp ((c.at r).2.2.1.trans (congrArg A s));refine⟨_,Rel.adm (bA.iR.old a3) λab=> ?_,QN bc⟩;have af:=nE aP.closed _ _ aX hw _ bb;have aE:Y++ax=zA++u::B:=al;rcases List.append_eq_append_iff.1 aE with⟨bY,bi,bj⟩|⟨aN,aR,ad⟩
      ·have bV:=f4.kV (c1 zA H0).next b (by
        rw[f1]at aj;have y:=(gH.append aj).2;grind[mM,Qj])
       grind
      ·cases aN with
       |nil=>
        grind
       |cons x bQ=>
        simp only[List.cons_append,List.cons.injEq]at ad;obtain⟨rfl,ad⟩:=ad;have aB:(c1 Y H0).get (c1 zA H0).next=A b:=by
         rw[aR,mM,c1,s];rw[Fy al (by simp[K.heap])];exact ae.a1 _ b
        cases b with
        |row ro esz els=>exact f4.rel.row _ _ _ _ aB
        |map es=>exact f4.rel.map _ _ aB
        |ee t esz els=>exact f4.rel.ee _ _ _ _ aB
        |dead=>grind
        |old=>cases a3
     refine⟨_,f4.rel,?_⟩;rw[show g9 (cQ ops) (lE P t.o.op t.R v) t.i T H0=g9 (cQ ops) (lE P t.o.op t.R v) t.i (Y++ax) H0 by grind]at a5;exact QN (JQ a5 (λu hu W=>by
      cases ab:cI (cQ ops) t.i u.i with
      |false=>rfl
      |true=>
       have V:=c.mem (t:=u) al;have:=nE aP.closed _ _ V (aP.closed _ _ V (f2 u hu W)) _ ab;grind) (λu a8 hu=>by
      obtain⟨r,s⟩:=f5 u a8 hu;refine⟨r,?_⟩;cases ab:cI (cQ ops) u.i t.i with
      |false=>rfl
      |true=>
       have:=nE aP.closed _ _ aX hw _ ab;grind))
   obtain⟨av,bu,am⟩:=am;rw[<-KD an]at am;exact QO bu am q λx aF=>still (by rw[f];rfl) x (by rw[f];exact aF)
  |new v b=>
   obtain⟨zC,zD,S⟩:=aO (by rw[f];rfl);have ah:T=(T1++zC)++t::zD:=al;have aC:=(c.at ah).2.2.1;rcases tf aC with⟨_,U⟩|⟨aF,_⟩
   ·rw[f]at U;have G:=oh.congr (λx aF=>(an x aF).symm) U;have y:gH (c1 T1 H0) (zC++t::zD):=by
     have:=aj;rw[O,S]at this;exact(gH.append this).2
    obtain⟨bv,a6⟩:=Qi (L:=c7 g) (L':=c7 (g.setIfInBounds t.i J)) f ar bg y
     (λu hu=>(z _ (c.before ah al).1).symm) (λu hu=>(z _ (Ne.symm (c.after ah hu).1)).symm)
    have aT:(c1 T1 H0).next<=(c1 zC (c1 T1 H0)).next:=(gH.append y).1.le
    have aW:(c1 zC (c1 T1 H0)).next<c_.next:=by
     have ai:=(gH.append y).2;have ay:=ai.2.le;rw[f]at ay;have aM:c_=c1 zD (K.heap (c1 zC (c1 T1 H0)) (.new v b)):=by
      rw[(l3 c.dU).2.1,ah,mM,mM,c1,f]
     grind[K.heap,ae.fW]
    rw[S]at m;have bn:lV P t.o.op aL (c1 zC (c1 T1 H0)).next=A (v,b):=by rw[<-mM];exact G
    refine PD bn q (m.fresh _ aT aW a6) λx ap bL loc bw a7 bE bF bG bH bI bJ bK bx bz bD=> ?_
    have gi:=m.early aT aW a6 a7 bE bF bG bH bI bJ bK bx bz bD;rw[<-bv]at gi;refine aA _ _ (c.next n aP.size aP.closed ar hw (q.mono a7) aJ ao (by rw[f];exact bw) (T1:=T1) (T2:=zC++t::zD) ⟨al,λu hu W=> ?_,λu hu aG=> ?_,gi⟩)
    ·grind
    ·have ak:u.i≠t.i:=λe=>by
      have:=c.uniq n al e;grind
     grind
   grind
  |cV v H'=>
   obtain⟨zC,zD,S⟩:=aO (by rw[f];rfl);have ah:T=(T1++zC)++t::zD:=al;have aC:=(c.at ah).2.2.1;rcases tf aC with⟨_,U⟩|⟨aF,_⟩
   ·rw[f]at U;have G:=oh.congr (λx aF=>(an x aF).symm) U;have y:gH (c1 T1 H0) (zC++t::zD):=by
     have:=aj;rw[O,S]at this;exact(gH.append this).2
    have aS:=c.cV;rw[ah]at aS;have aQ:=(zR aS f).2;rw[S]at m;have M:=gR.turns (zC:=zC) (zD:=t::zD) (L:=c7 g) y (λu hu h=>by
     have af:=nE aP.closed _ _ aX hw _ (aQ u al h);refine⟨af,?_⟩;cases bo:u.k with
     |new x b=>grind
     |cV x H=>grind
     |_=>rw[bo]at h;cases h) m
    rw[tv al,f]at M;simp only[K.heap]at M;have aD:gH H' zD:=by have:=(gH.append y).2.2;rw[f]at this;exact this
    have bf:c_=c1 zD H':=by rw[(l3 c.dU).2.1,ah,mM,c1,f];rfl
    have bh:H'.next<=c_.next:=by rw[bf];exact aD.le
    rw[mM]at G;refine Mj (H:=c1 zC (c1 T1 H0)) (H':=H') bk M.rel ⟨λl r s=>M.fresh l r aa ?_,Env.le_trans bd M.le⟩ G q λx ap bL r s=> ?_
    ·cases aH:eL (c7 g) zD H' l with
     |none=>rfl
     |some b=>have:=vK aD aH;omega
    ·have b1:=M.step s bh (λl b aH=>vK aD aH);refine aA _ _ (c.next n aP.size aP.closed ar hw (q.mono s.le) aJ ao (by rw[f];exact r) (T1:=T1++zC++[t]) (T2:=zD) ⟨al,λu hu W=> ?_,λu hu aG=> ?_,?_⟩)
     ·by_cases e:u.i=t.i
      ·grind
      ·rw[z _ e];simp only[List.mem_append,List.mem_singleton]at hu;rcases hu with(hu|hu)|rfl
       ·grind
       ·exact nE aP.closed _ _ aX hw _ (aQ u al W)
       omega
     ·rw[z _ (Ne.symm (c.after ah hu).1)];grind
     ·have be:c1 (T1++zC++[t]) H0=H':=by rw[mM,c1,f];rfl
      rw[be,vJ (L':=c7 g) λu hu v b p=>z _ (Ne.symm (c.after ah hu).1)];omega
   grind
 ·rw[aI];simp only[Bool.false_eq_true,if_false];exact still (by rw[p];rfl) undef (by rw[p];exact .tuple [] [] .nil)
theorem Ctx.any(c:Ctx P call ops ord dq H0 T br c_)(l:e_ E P call)(k:E.le ρ0)(n:∀ρ a w,e1 ρ br a->Step ρ0 H0 w0 ρ c_ w->Q .normal a w):
  ∀(fuel:Nat) (b:Array Bool) (a:Act) (w:World),Inv ops dq H0 T c_.next ρ0 w0 b a w->(List.range ops.size).countP (λj=> !c7 b j)<=fuel->wpAny P .any ops Q fuel b a w:=by
 have f:∀b a w,Inv ops dq H0 T c_.next ρ0 w0 b a w->Region.ready .any ops b=[]->Q .normal a w:=by
  intro b a w aP au;obtain⟨ρ,ah,ai⟩:=c.final aP (c.Kr aP.size au);grind
 intro fuel
 induction fuel with
 |zero=>
  intro b a w aP e;have au:Region.ready .any ops b=[]:=by
   rw[List.eq_nil_iff_forall_not_mem];intro i d;obtain⟨o,ah,ai,ay,aM⟩:=p8 d aP.size;grind[List.countP_pos_iff]
  exact⟨au,f _ _ _ aP au⟩
 |succ fuel m=>
  intro b a w aP e;refine⟨λau=>f _ _ _ aP au,λi d=> ?_⟩;obtain⟨o,aX,ar,hw,g⟩:=p8 d aP.size;exact c.step l k aP aX ar hw g λbY p h=>m _ _ _ h (count_set (by rw[aP.size];omega) g ar e)
theorem alh{id:Nat}{a:Act}{w:World}(hm:P.follows .mixedOrders=J)(g:e_ E P call)(c:Ctx P call ops ord dq H0 T br c_)(f:Rel ρ0 H0 w)(aB:jL E ρ0 H0.next c_.next)(au:e1 ρ0 dq a)
  (e:∀ρ a b,e1 ρ br a->Step ρ0 H0 w ρ c_ b->Q .normal a b):(Code.region id ops J).wp P Q a w:=by
 have h:∀j,c7 (Array.replicate ops.size I) j=false:=λj=>by
  unfold c7;rw[Array.getD_eq_getD_getElem?];grind
 refine wp_region_any hm (c.any (ρ0:=ρ0) (w0:=w.drew) g aB.le (λρ a b ah ai=>e ρ a b ah ?_) _ _ _ _ ⟨aW,λi o _ ar=>absurd ar al,ρ0,[],T,rfl,aW,λt _ _=>h _,?_,dq,au,rfl,λd=> ?_⟩ ?_)
 ·exact⟨ai.le,ai.next,ai.keep,ai.rel,ai.os,ai.tape,ai.output,ai.size,ai.frame,ai.own,ai.ro,ai.olds⟩
 ·have k:eL (c7 (Array.replicate ops.size I)) T (c1 [] H0)=λ_=>none:=by
   have:∀(T:List bN) (H:ae),eL (c7 (Array.replicate ops.size I)) T H=λ_=>none:=by
    intro T
    induction T with
    |nil=>intro H;rfl
    |cons t T l=>
     grind[eL]
   grind
  rw[k];exact gR.start f.drew aB.new
 ·grind[vR]
 grind[List.countP_le_length]
