/-
  Texts of one proof, laid together: Hv8 Hv9 Hv10 Hv11.
-/
import Derived.Test.YtmhhnnklfcbgfaaGreatMA
import Derived.Deep.AppendSrc
import Derived.Orders
set_option linter.unusedVariables false
set_option linter.unusedSimpArgs false
set_option linter.defProp false
open Option renaming some→A,none→Z
open Bool renaming true→J,false→I
namespace Go.cw
section
variable {P:Program}{ρ:Env}{H:ae}{w:World}
theorem Ko(c:Array Value):∀(d:List af) (o:Nat),(∀(j:Nat) (v:af),d[j]? =A v->v.one=J/\∃x,c[o+j]? =A x/\bA ρ v x)->
  ∃xs:List Value,bU ρ d xs/\(∀j u,xs[j]? =A u->c[o+j]? =A u)/\∀u∈xs,u.oneCell'=J
 |[],_,_=>⟨[],.nil,λj u h=>al,λu h=>by cases h⟩
 |v::d,o,h=>by
  obtain⟨ah,x,aE,a⟩:=h 0 v rfl;obtain⟨xs,b,e,f⟩:=Ko c d (o+1) (λj u g=>by have:=h (j+1) u al;grind);refine⟨x::xs,.cons _ _ _ _ a b,?_,?_⟩
  ·grind
  ·intro u hu;rcases List.mem_cons.1 hu with rfl|hu
   ·exact a.FI ah
   grind
theorem P0(c:Array Value)(esz:Nat):∀(els:List (List af)) (o:Nat),(∀(i:Nat) (e:List af),els[i]? =A e->e.length=esz/\∀(j:Nat) (v:af),e[j]? =A v->v.one=J/\∃x,c[o+i*esz+j]? =A x/\bA ρ v x)->
  ∃xs:List Value,bU ρ els.flatten xs/\(∀j u,xs[j]? =A u->c[o+j]? =A u)/\∀u∈xs,u.oneCell'=J
 |[],_,_=>⟨[],by simpa using bU.nil,λj u h=>al,λu h=>by cases h⟩
 |d::els,o,h=>by
  obtain⟨n,aA⟩:=h 0 d rfl;obtain⟨g,a,k,a3⟩:=Ko c d o (λj v f=>by simpa using aA j v f);obtain⟨xs,b,l,m⟩:=P0 c esz els (o+esz) (λi e he=>by
   have:=h (i+1) e al;grind)
  have aw:=a.length;refine⟨g++xs,by simpa using a.append b,?_,?_⟩
  ·grind
  grind
def iR(H:ae)(l i n esz:Nat):Option (List (List af)):=
 match H.get l with
 |some (.row _ a els)=>if a=esz/\i+n<=els.length then A ((els.drop i).take n)else Z
 |some (.dZ _ a els)=>if a=esz/\i+n<=els.length then A ((els.drop i).take n)else Z
 |_=>Z
theorem acC{els:List (List af)}{i n k:Nat}{e:List af}(h:((els.drop i).take n)[k]? =A e):els[i+k]? =A e:=by
 grind
theorem Jm{ro:Bool}{i n:Nat}{loc:Loc}{d:Nat}{els a:List (List af)}(k:gJ ρ w loc ro d els)(h:(if d=loc.esz/\i+n<=els.length then A ((els.drop i).take n)else Z)=A a):
  a.length=n/\(∀e∈a,e.length=loc.esz)/\(∀e∈a,∀v∈e,v.one=J)/\
  ∃xs:List Value,bU ρ a.flatten xs/\xs.length=n*loc.esz/\(∀j u,xs[j]? =A u->w.cell? ⟨loc.block,loc.off+i*loc.esz+j,Z⟩=A u)/\∀u∈xs,u.oneCell'=true:=by
 ·split at h
  ·rename_i g;obtain⟨rfl,hle⟩:=g;simp only[bD]at h;subst h;obtain⟨_,c,t,m,o,_,ar⟩:=k;have hlen:((els.drop i).take n).length=n:=al;have ah:∀e∈(els.drop i).take n,e.length=loc.esz:=(by grind[List.getElem?_of_mem]);have ai:∀e∈(els.drop i).take n,∀v∈e,v.one=true:=(by grind[List.getElem?_of_mem]);refine⟨hlen,ah,ai,?_⟩;obtain⟨xs,b,l,f⟩:=P0 (ρ:=ρ) c loc.esz ((els.drop i).take n) (loc.off+i*loc.esz) al;refine⟨xs,b,by rw[<-b.length,o9 ah,hlen],λj u p=> ?_,f⟩;grind[World.cell?]
  grind
theorem DI(b:Rel ρ H w){l i n:Nat}{loc:Loc}{a:List (List af)}(h:iR H l i n loc.esz=A a)(aw:ρ l=A loc):
  a.length=n/\(∀e∈a,e.length=loc.esz)/\(∀e∈a,∀v∈e,v.one=J)/\
  ∃xs:List Value,bU ρ a.flatten xs/\xs.length=n*loc.esz/\(∀j u,xs[j]? =A u->w.cell? ⟨loc.block,loc.off+i*loc.esz+j,Z⟩=A u)/\∀u∈xs,u.oneCell'=true:=by
 unfold iR at h;split at h
 ·rename_i ro c els aS;obtain⟨g,d,f⟩:=b.row _ _ _ _ aS;grind[Jm]
 ·rename_i t c els aS;obtain⟨g,d,f,_⟩:=b.dZ _ _ _ _ aS;grind[Jm]
 grind
def l_(P:Program)(H:ae)(c:TypeId)(esz:Nat)(x:af):Option (List (List af)):=
 match P.underlying c,x with
 |some (.slice _),.az l i n a _=>if a=esz then(if n=0 then A []else iR H l i n esz)else Z
 |some (.slice _),.ao=>A []
 |some .string,.str s=>if esz=1 then A (s.map λb=>[.int .u8 b.toNat])else Z
 |_,_=>Z
def UX(s:List UInt8):bU ρ ((s.map λb=>[af.int .u8 b.toNat]).flatten) (byteCells ⟨s.toArray⟩):=by
 unfold byteCells;show bU ρ _ (s.map _)
 induction s with
 |nil=>exact .nil
 |cons b s a=>exact .cons _ _ _ _ (.int _ _) a
theorem T4(j:Rel ρ H w){f:TypeId}{esz:Nat}{x:af}{g:Value}{b:List (List af)}(h:l_ P H f esz x=A b)(aE:bA ρ x g):
  (∀e∈b,e.length=esz)/\(∀e∈b,∀v∈e,v.one=J)/\∃news:List Value,bU ρ b.flatten news/\Src P esz f g b.length news w:=by
 unfold l_ at h;split at h
 ·rename_i e l i n m cap hu;split at h
  ·rename_i he;subst he;cases aE with|az _ _ _ _ loc a c aw aL aA r=>
   by_cases d:n=0
   ·subst d;simp only[if_true,bD]at h;subst h;exact⟨aX,aX,[],by simpa using bU.nil,(by grind[Src.ofSlice])⟩
   rw[if_neg d]at h;obtain⟨ah,ai,ax,xs,aM,o,p,q⟩:=DI j h aw;grind[Src.ofSlice,na]
  grind
 ·rename_i e hu;cases aE;simp only[bD]at h;subst h;exact⟨aX,aX,[],by simpa using bU.nil,Src.ofNil w hu 0⟩
 ·rename_i s hu;split at h
  ·rename_i he;subst he;cases aE;simp only[bD]at h;subst h;refine⟨aX,by simp[af.one],_,UX s,?_⟩;have:=Src.ofString w hu (⟨s.toArray⟩:ByteArray);have k:(⟨s.toArray⟩:ByteArray).size=s.length:=by show s.toArray.size=_;simp
   rw[k]at this;simpa using this
  grind
 grind
def lW(P:Program)(t:TypeId):Option Nat:=(P.info? t).map (·.bytes)
def yI(x:af)(e:TypeId):Option TypeId:=match x with
 | .str _=>A e
 |_=>Z
theorem Ua{x:af}{e:TypeId}:∀a,yI x e=A a->a=e:=by
 intro a h;unfold yI at h;grind
def qM(P:Program)(t:TypeId):Bool:=match P.underlying t with
 |some (.int .i64)=>J
 |_=>I
theorem ZQ{P:Program}{t:TypeId}(h:qM P t=J):P.underlying t=A (.int .i64):=by
 grind[qM]
def yH(P:Program)(H:ae)(e:TypeId)(s x:af):Option (af×ae):=
 match s,x with
 | .ao,.int .i64 (.ofNat n)=>(match cE P e,lW P e,fX P e with
  |some esz,A iV,A z=>
   if 0<n/\z.cells.length=esz/\0<esz/\z.cells.all af.one=J/\n*iV<=140737488355328/\n<=1125899906842624 then A (.az H.next 0 n esz Z,H.push (.row I esz (List.replicate n z.cells)))else Z
  |_,_,_=>Z)
 |_,_=>Z
def gone(i s esz:Nat)(els:List (List af)):bz:=match i with
 |0=> .old s esz els
 |_+1=> .dead
def eA(P:Program)(H:ae)(ts:List TypeId)(s x:af):Option (af×ae):=
 match ts with
 |[t,b]=>
  (match P.underlying t with
  |some (.slice e)=>
   if qM P b=J then yH P H e s x else
   (match cE P e,lW P e,fX P e with
   |some esz,A iV,A z=>
    (match l_ P H b esz x with
    |some a=>
     if z.cells.length=esz/\0<esz then
      (match s with
      | .ao=>if a.length=0 then A (.ao,H)else
       if a.length*iV<=140737488355328/\a.length<=9223372036854775807 then A (.az H.next 0 a.length esz Z,H.push (eQ (yI x e) esz a))else Z
      | .az l i n c cap=>
       if c=esz then
        if a.length=0 then A (s,H)
        else if(n+a.length)*iV<=140737488355328/\n+a.length<=9223372036854775807 then
         (match iR H l i n esz with
         |some os=>
          if cap.any (· <n+a.length)=J then A (.az H.next 0 (n+a.length) esz Z,H.push (.row I esz (os++a)))
          else if cap=Z then
           (match H.get l with
           |some (.row I _ els)=>A (.az H.next 0 (n+a.length) esz Z,(H.set l (gone i H.next esz els)).push (.row I esz (os++a)))
           |some (.dZ t0 _ _)=>if t0=e/\i=0 then A (.az H.next 0 (n+a.length) esz Z,(H.set l .dead).push (.dZ t0 esz (os++a)))else Z
           |_=>Z)
          else Z
         |none=>Z)
        else Z
       else Z
      |_=>Z)
     else Z
    |none=>Z)
   |_,_,_=>Z)
  |_=>Z)
 |_=>Z
theorem Qc(w:World)(t d ty e:TypeId)(ba:P.underlying t=A (.slice e)){esz:Nat}(g:cE P e=A esz)(base:Option Addr)(n c:Nat)(aL:n<=c)(x:Value)(a:Src P esz d x 0 [] w):
  (Builtin.append_ #[t,d] ty #[.slice base n c,x]).run P w= .ok (.slice base n c) w:=by
 have f:=a.cells;rcases a.kind with⟨h,b⟩|b<;>cases base<;>
  simp[Builtin.append_,run_underlying ba,run_underlying b,run_sizeOf g,a.len,aL,f,storeCells]
theorem EE(x:Rel ρ H w)(aC:ρ H.next=Z){ot:Option TypeId}{t j e:TypeId}(K:∀p,ot=A p->p=e)(ty:TypeId)(ba:P.underlying t=A (.slice e)){esz iV:Nat}{z:af}(g:cE P e=A esz)(f:lW P e=A iV)(h:fX P e=A z)
  (aa:z.cells.length=esz) (Y:0<esz)
  {a os:List (List af)} (d1:∀e∈a,e.length=esz) (d2:∀e∈a,∀v∈e,v.one=J) {news:List Value} (d3:bU ρ a.flatten news) {l:Value} (M:Src P esz j l a.length news w)
  (m:∀e∈os,e.length=esz) (U:∀e∈os,∀v∈e,v.one=J) {olds:List Value} (o:bU ρ os.flatten olds) (base:Option Addr) (n c:Nat) (G:os.length=n)
  (hold:(Builtin.firstCells esz n (.slice base n c)).run P w.drew= .ok olds.toArray w.drew) (aS:c<n+a.length) (B:(n+a.length)*iV<=140737488355328) (V:n+a.length<=9223372036854775807):
  ∃r q s,(Builtin.append_ #[t,j] ty #[.slice base n c,l]).run P w= .ok r q/\bA s (.az H.next 0 (n+a.length) esz Z) r/\Step ρ H w s (H.push (eQ ot esz (os++a))) q:=by
 unfold fX at h;unfold cE at g;unfold lW at f;simp only[eV]at h;obtain⟨i,aP,d,Q,R⟩:=h;rw[aP]at g f;simp only[Option.map_some,bD]at g f;subst g;subst f;have N:=(zT R ρ).cells;have O:d.cells.size=i.size:=by have:=N.length;grind
 have L:=run_append_grow_src (P:=P) w t j ty e i d ba aP Q base n c olds hold l a.length news M aS ad (growslice_fits aS B);have y:Rel ρ H w.drew:=x.drew;have b:=vb (w:=w.drew) y aC (ot:=ot) (esz:=i.size) (els:=os++a) (λe he=>(List.mem_append.1 he).elim (m e) (d1 e)) (λe he=>(List.mem_append.1 he).elim (U e) (d2 e))
  (xs:=olds++news) (tail:=(Builtin.zeroCells d.cells (grownCap w (n+a.length) c e-(n+a.length))).toList) (by simpa using o.append d3) e K
 have u:((olds++news)++(Builtin.zeroCells d.cells (grownCap w (n+a.length) c e-(n+a.length))).toList).toArray=(olds++news).toArray++Builtin.zeroCells d.cells (grownCap w (n+a.length) c e-(n+a.length)):=by
  grind
 rw[u]at b;refine⟨_,_,_,L,?_,⟨b.le,b.next,b.keep,b.rel,b.os,b.tape,b.output,b.size,b.frame,b.own,b.ro,b.olds⟩⟩;have E:=grownCap_ge w (n+a.length) c e;refine bA.az (ρ:=ρ.dG H.next _) H.next 0 (n+a.length) Z _ _ (grownCap w (n+a.length) c e) (Env.hq _ _ _) E (λk W=>al) (λ_=>⟨by show(⟨w.heap.size,0,Z⟩:Addr)=⟨w.heap.size,0+0*i.size,Z⟩;simp,?_⟩)
 have S:olds.length=n*i.size:=by rw[<-o.length,o9 m,G]
 have l2:news.length=a.length*i.size:=by rw[<-d3.length,o9 d1]
 have T:(Builtin.zeroCells d.cells (grownCap w (n+a.length) c e-(n+a.length))).size=(grownCap w (n+a.length) c e-(n+a.length))*i.size:=by rw[size_zeroCells,O]
 simp only[Nat.zero_add,List.length_append,S,l2,Array.length_toList,T];rw[<-Nat.add_mul,<-Nat.add_mul];grind
theorem acE(g:Rel ρ H w)(aC:ρ H.next=Z){ot:Option TypeId}{l i n esz:Nat}{els:List (List af)}(aS:H.get l=A (eQ ot esz els)){loc:Loc}(aw:ρ l=A loc)(aY:i+n<=els.length)
  {c:List (List af)} (d1:∀e∈c,e.length=esz) (d2:∀e∈c,∀v∈e,v.one=J) {news:List Value} (d3:bU ρ c.flatten news) (aU:loc.off+(i+n+c.length)*esz<=loc.size) (aB:∀o,ot=A o->i=0):
  Step ρ H w (ρ.dG H.next ⟨loc.block,loc.off+i*esz,esz,loc.size⟩) ((H.set l .dead).push (eQ ot esz ((els.drop i).take n++c))) (w.setCells loc.block (loc.off+(i+n)*esz) news):=by
 have ay:=ae.bq aS;obtain⟨d,m,⟨_,arr,t,S,U,W,aF⟩,aH⟩:=uZ g aS;obtain rfl:loc=d:=Option.some.inj (aw.symm.trans m);have a4:=W.1;have aV:=W.2 rfl;have hle:=Env.od aC ⟨loc.block,loc.off+i*esz,esz,loc.size⟩;have a3:news.length=c.length*esz:=by rw[<-d3.length,o9 d1]
 obtain⟨s1,s2,gb,aO⟩:=C7 loc.block news (loc.off+(i+n)*esz) w;have E:∀k,k≠H.next->k≠l->((H.set l .dead).push (eQ ot esz ((els.drop i).take n++c))).get k=H.get k:=λk ah ai=>by
  rw[ae.eW (fA ah),ae.b8 (Ne.symm ai)]
 have aQ:((H.set l .dead).push (eQ ot esz ((els.drop i).take n++c))).get l=A .dead:=by
  rw[ae.eW (by simp;omega),ae.cH ay]
 have B:((H.set l .dead).push (eQ ot esz ((els.drop i).take n++c))).get H.next=A (eQ ot esz ((els.drop i).take n++c)):=ae.a2 (H.set l .dead) _
 have ab:∀k,((H.set l .dead).push (eQ ot esz ((els.drop i).take n++c))).rw k->k≠H.next->H.rw k/\k≠l:=λk h a=>by
  grind[ae.rw]
 have aI:∀k,((H.set l .dead).push (eQ ot esz ((els.drop i).take n++c))).live k->k≠H.next->H.live k/\k≠l:=λk h a=>by
  grind[ae.live]
 have K:∀k d,H.live k->k≠l->ρ k=A d->d.block≠loc.block:=λk d h cu e heq=>
  g.apart l k loc d (px aS) h (Ne.symm cu) aw e heq.symm
 have key:gJ (ρ.dG H.next ⟨loc.block,loc.off+i*esz,esz,loc.size⟩) (w.setCells loc.block (loc.off+(i+n)*esz) news) ⟨loc.block,loc.off+i*esz,esz,loc.size⟩ I esz ((els.drop i).take n++c)/\
   (w.setCells loc.block (loc.off+(i+n)*esz) news).heap[loc.block]? =A (.cells (j0 arr (loc.off+(i+n)*esz) news) t S):=by
  refine⟨⟨rfl,_,t,S,yc _ _ _ _ _ _ _ U,⟨by grind[vc],λ_=>by grind[vc]⟩,?_⟩,yc _ _ _ _ _ _ _ U⟩;intro q e he;have av:((els.drop i).take n).length=n:=al;by_cases aJ:q<n
  ·rw[List.getElem?_append_left ad]at he;have an:=acC he;obtain⟨a0,L⟩:=aF _ e an;refine⟨a0,λj v p=> ?_⟩;obtain⟨M,x,aE,s⟩:=L j v p;refine⟨M,x,?_,s.mono hle⟩;have ap:j<esz:=by
    grind
   show(j0 arr (loc.off+(i+n)*esz) news)[loc.off+i*esz+q*esz+j]? =A x;rw[sU _ _ _ _ (by have:=uW (n:=esz) (show i+q<i+n by omega);rw[Nat.add_mul]at this;omega)];grind
  ·rw[List.getElem?_append_right ad,av]at he;refine⟨d1 e (List.mem_of_getElem? he),λj v p=> ?_⟩;obtain⟨x,aE,s⟩:=d3.get _ _ (Ev d1 he p);refine⟨d2 e (List.mem_of_getElem? he) v (List.mem_of_getElem? p),x,?_,s.mono hle⟩;have aD:q-n<c.length:=by
    grind
   have ap:j<esz:=by
    grind
   have aT:=uW (n:=esz) aD;have a1:(i+n+c.length)*esz=(i+n)*esz+c.length*esz:=Nat.add_mul _ _ _;have:=z_ news arr (loc.off+(i+n)*esz) ((q-n)*esz+j) x aE ad;show(j0 arr (loc.off+(i+n)*esz) news)[loc.off+i*esz+q*esz+j]? =A x;rw[show loc.off+i*esz+q*esz+j=loc.off+(i+n)*esz+((q-n)*esz+j) by
    have:q*esz=n*esz+(q-n)*esz:=by rw[<-Nat.add_mul];grind
    grind]
   omega
 have V:∀b,b<w.heap.size->¬eX ρ H b->(w.setCells loc.block (loc.off+(i+n)*esz) news).heap[b]? =w.heap[b]? :=by
  intro b _ aA;refine nH _ _ _ _ _ ?_;rintro rfl;exact aA ⟨l,loc,px aS,aw,rfl⟩
 have Y:∀b,eX (ρ.dG H.next ⟨loc.block,loc.off+i*esz,esz,loc.size⟩) ((H.set l .dead).push (eQ ot esz ((els.drop i).take n++c))) b->eX ρ H b\/w.heap.size<=b:=by
  rintro b ⟨k,d,ah,ai,ax⟩;by_cases a:k=H.next
  ·subst a;rw[Env.hq]at ai;obtain rfl:=Option.some.inj ai;exact .inl ⟨l,loc,px aS,aw,ax⟩
  ·obtain⟨G,_⟩:=ab k ah a;rw[Env.hG a]at ai;exact .inl ⟨k,d,G,ai,ax⟩
 refine⟨hle,aX,λk a=>Env.hG (by simp at a;omega),⟨?_,?_,?_,?_,?_⟩,s2,gb,aO,Nat.le_of_eq s1.symm,V,Y,?ro,?olds⟩
 case olds=>
  refine .same λk aN z y h=> ?_
  by_cases a:k=H.next
  ·subst a;rw[B]at h;cases ot<;>cases h
  grind
 case ro=>
  intro k z y h;by_cases a:k=H.next
  ·subst a;rw[B]at h;have:=Fo ot esz ((els.drop i).take n++c);rw[Option.some.inj h]at this;cases this
  grind
 ·intro k a6 z y h;by_cases a:k=H.next
  ·grind[Fp,Env.hq]
  ·by_cases f:k=l
   ·grind
   ·rw[E k a f]at h;obtain⟨d,m,aL,aj,o,ak,aM,Q,R⟩:=g.row _ _ _ _ h;have r:=K k d (.inl ⟨_,_,_,h⟩) f m;refine⟨d,by grind[Env.hG],aL,aj,o,ak,by grind[nH],Q,?_⟩;intro q e he;obtain⟨a0,L⟩:=R q e he;refine⟨a0,λj v p=> ?_⟩;obtain⟨M,x,aE,s⟩:=L j v p;exact⟨M,x,aE,s.mono hle⟩
 ·intro k es h;by_cases a:k=H.next
  ·grind[Fm]
  ·by_cases f:k=l
   ·grind
   ·rw[E k a f]at h;obtain⟨d,m,ents,clock,aM,Q,R⟩:=g.map _ _ h;have r:=K k d (.inr (.inl ⟨_,h⟩)) f m;exact⟨d,by grind[Env.hG],ents,clock,by grind[nH],Q.mono hle,R.mono hle⟩
 ·intro k o z y h;by_cases a:k=H.next
  ·subst a;rw[B]at h;obtain⟨T,rfl,rfl⟩:=Fq (Option.some.inj h);obtain⟨br,aP,aR,a5⟩:=aH o T;obtain rfl:=aB o T;have aG:o=t:=al;subst aG;exact⟨_,Env.hq _ _ _,key.1,_,_,key.2,al⟩
  ·by_cases f:k=l
   ·grind
   ·rw[E k a f]at h;obtain⟨d,m,ar⟩:=g.dZ _ _ _ _ h;have r:=K k d (.inr (.inr ⟨_,_,_,h⟩)) f m;exact⟨d,by grind[Env.hG],ar.frame hle (nH _ _ _ _ _ r)⟩
 ·intro k P aa aK ah ai r N u;by_cases a:k=H.next
  ·grind[Env.hq,Env.hG]
  ·obtain⟨G,aq⟩:=ab k ah a;rw[Env.hG a]at N;by_cases O:P=H.next
   ·subst O;rw[Env.hq]at u;obtain rfl:=Option.some.inj u;exact K k aa G.live aq N
   ·obtain⟨am,aZ⟩:=aI P ai O;rw[Env.hG O]at u;exact g.apart k P aa aK G am r N u
 ·intro k aN z y h;by_cases a:k=H.next
  ·subst a;rw[B]at h;cases ot<;>cases h
  ·by_cases f:k=l
   ·grind
   ·rw[E k a f]at h;exact(g.old _ _ _ _ h).step hle (Nat.le_of_eq s1.symm) V Y
theorem Step.dead{o:Env}{d f:ae}{n:World}(h:Step ρ H w o d n)(aL:f.next=d.next)(aS:∀k,f.get k=d.get k\/f.get k=A .dead):Step ρ H w o f n:=by
 have g:∀k ro esz els,f.get k=A (.row ro esz els)->d.get k=A (.row ro esz els):=al;have get_map:∀k es,f.get k=A (.map es)->d.get k=A (.map es):=al;have q:∀k t esz els,f.get k=A (.dZ t esz els)->d.get k=A (.dZ t esz els):=al;have i:∀k,f.rw k->d.rw k:=λk h=>by
  rcases h with⟨a,b,h⟩|⟨a,h⟩|⟨a,b,c,h⟩
  ·exact .inl ⟨a,b,g _ _ _ _ h⟩
  ·exact .inr (.inl ⟨a,get_map _ _ h⟩)
  ·exact .inr al
 have r:∀k,f.live k->d.live k:=λk h=>by
  rcases h with⟨a,b,c,h⟩|⟨a,h⟩|⟨a,b,c,h⟩
  ·exact .inl al
  ·exact .inr (.inl ⟨a,get_map _ _ h⟩)
  ·exact .inr al
 refine⟨h.le,by rw[aL];exact h.next,λl aw=>h.keep l ad,⟨λl ro esz els e=>h.rel.row l ro esz els (g _ _ _ _ e),λl es e=>h.rel.map l es (get_map _ _ e),λl t esz els e=>h.rel.dZ l t esz els (q _ _ _ _ e),λl j a b ah ai=>h.rel.apart l j a b (i _ ah) (r _ ai),λl s esz els e=> ?_⟩,h.os,h.tape,h.output,h.size,h.frame,?_,λk esz els e=>h.ro k esz els (g _ _ _ _ e),λk s esz els e=>h.olds k s esz els (by
  grind)⟩
 ·have p:d.get l=A (.old s esz els):=by
   grind
  obtain⟨loc,x,v,y⟩:=h.rel.old _ _ _ _ p;exact⟨loc,x,v,y.imp id λm=>⟨m.1,λ⟨j,u,z,B,E⟩=>m.2 ⟨j,u,i _ z,B,E⟩⟩⟩
 ·rintro b ⟨l,loc,ah,ai,ax⟩;exact h.own b ⟨l,loc,i _ ah,ai,ax⟩
theorem Step.ab_{f:Env}{d g:ae}{i:World}(h:Step ρ H w f d i)(aL:g.next=d.next)(aS:∀k,g.get k=d.get k\/(d.get k=A .dead/\∃s esz els,g.get k=A (.old s esz els)/\oP f (eX f d) i k s esz els/\∃loc,f k=A loc/\eX ρ H loc.block)):Step ρ H w f g i:=by
 have same:∀k b,b.qN=I->g.get k=A b->d.get k=A b:=λk b q e=>by
  rcases aS k with h|⟨_,s,esz,els,h,_⟩
  ·grind
  ·rw[h]at e;cases e;cases q
 have j:∀k,g.rw k->d.rw k:=λk h=>by
  rcases h with⟨a,b,h⟩|⟨a,h⟩|⟨a,b,c,h⟩
  ·exact .inl ⟨a,b,same _ _ rfl h⟩
  ·exact .inr (.inl ⟨a,same _ _ rfl h⟩)
  ·exact .inr al
 have r:∀k,g.live k->d.live k:=λk h=>by
  rcases h with⟨a,b,c,h⟩|⟨a,h⟩|⟨a,b,c,h⟩
  ·exact .inl ⟨a,b,c,same _ _ rfl h⟩
  ·exact .inr (.inl ⟨a,same _ _ rfl h⟩)
  ·exact .inr al
 have sub:∀{l s esz els},oP f (eX f d) i l s esz els->oP f (eX f g) i l s esz els:=λ⟨loc,x,v,y⟩=>⟨loc,x,v,y.imp id λn=>⟨n.1,λ⟨m,u,z,B,E⟩=>n.2 ⟨m,u,j _ z,B,E⟩⟩⟩
 refine⟨h.le,by rw[aL];exact h.next,λl aw=>h.keep l ad,⟨λl ro esz els e=>h.rel.row l ro esz els (same _ _ rfl e),λl es e=>h.rel.map l es (same _ _ rfl e),λl t esz els e=>h.rel.dZ l t esz els (same _ _ rfl e),λl m a b ah ai=>h.rel.apart l m a b (j _ ah) (r _ ai),λl s esz els e=> ?_⟩,h.os,h.tape,h.output,h.size,h.frame,?_,λk esz els e=>h.ro k esz els (same _ _ rfl e),λk s esz els e=> ?_⟩
 ·rcases aS l with ah|⟨_,G,p,o,ah,ai,_⟩
  ·exact sub (h.rel.old _ _ _ _ al)
  grind
 ·rintro b ⟨l,loc,ah,ai,ax⟩;exact h.own b ⟨l,loc,j _ ah,ai,ax⟩
 ·rcases aS k with ah|⟨_,G,p,o,ah,_,loc,ai,ax⟩
  ·exact h.olds k s esz els al
  grind
theorem TA{ot:Option TypeId}{l i n esz a:Nat}{els os:List (List af)}(aS:H.get l=A (eQ ot a els))(h:iR H l i n esz=A os):a=esz/\i+n<=els.length/\os=(els.drop i).take n:=by
 unfold iR at h;cases ot with
 |none=>
  grind[eQ]
 |some t=>
  grind[eQ]
theorem Mq(s:Rel ρ H w)(aC:ρ H.next=Z){ot:Option TypeId}{t G e:TypeId}(aA:∀f,ot=A f->f=e)(ty:TypeId)(hu:P.underlying t=A (.slice e)){iV:Nat}{z:af}{l i n:Nat}{cap:Option Nat}{loc:Loc}{a os:List (List af)}(aR:cap=Z)(aS:¬a.length=0)(aF:cE P e=A loc.esz)(aj:lW P e=A iV)(aG:fX P e=A z)
  (aH:z.cells.length=loc.esz) (aB:0<loc.esz)
  (d1:∀e∈a,e.length=loc.esz) (d2:∀e∈a,∀v∈e,v.one=J) {news:List Value} (d3:bU ρ a.flatten news) {K:Value} (aE:Src P loc.esz G K a.length news w)
  (B:os.length=n) (aK:∀e∈os,e.length=loc.esz) (aL:∀e∈os,∀v∈e,v.one=J) {olds:List Value} (aM:bU ρ os.flatten olds) (o:Addr) (c:Nat)
  (hold:(Builtin.firstCells loc.esz n (.slice (A o) n c)).run P w.drew= .ok olds.toArray w.drew) (L:(n+a.length)*iV<=140737488355328/\n+a.length<=9223372036854775807)
  (aw:ρ l=A loc) (ab:0<c->o=⟨loc.block,loc.off+i*loc.esz,Z⟩/\loc.off+(i+c)*loc.esz<=loc.size) {V:Nat} {d:List (List af)} (av:∀f,ot=A f->i=0) (q:H.get l=A (eQ ot V d)) (ay:iR H l i n loc.esz=A os):
  ∃r m g,(Builtin.append_ #[t,G] ty #[.slice (A o) n c,K]).run P w= .ok r m/\bA g (.az H.next 0 (n+a.length) loc.esz Z) r/\Step ρ H w g ((H.set l .dead).push (eQ ot loc.esz (os++a))) m/\(i=0->oP g (eX g ((H.set l .dead).push (eQ ot loc.esz (os++a)))) m l H.next loc.esz d):=by
 obtain⟨aT,ax⟩:=TA q ay;obtain⟨y,aY,⟨ak,arr,t0,aP,aQ,M,a0⟩,-⟩:=uZ s q;obtain rfl:loc=y:=al;subst ak;obtain⟨ar,rfl⟩:=ax
 ·have B:=B;by_cases x:n+a.length<=c
  ·obtain⟨rfl,am⟩:=ab ad;have a1:=M.1;have aU:=M.2 rfl;have a3:=acE (n:=n) s aC q aw ar d1 d2 d3 (by
    refine Nat.le_trans (Nat.add_le_add_left (Nat.mul_le_mul_right _ ?_) _) am;omega) av
   have aZ:news.length=a.length*loc.esz:=by rw[<-d3.length,o9 d1]
   have aV:∀j,j<news.length->loc.off+i*loc.esz+n*loc.esz+j<arr.size:=by
    intro j O;have ah:(i+c)*loc.esz=i*loc.esz+c*loc.esz:=Nat.add_mul _ _ _;have ai:n*loc.esz+a.length*loc.esz<=c*loc.esz:=by rw[<-Nat.add_mul];exact Nat.mul_le_mul_right _ x
    omega
   cases ap:P.info? e with
   |none=>grind[cE]
   |some S=>
    have aq:S.size=loc.esz:=by grind[cE]
    have R:=run_append_room_src (P:=P) w t G ty e S hu ap loc.block (loc.off+i*loc.esz) n c K a.length news al x
     (λj O=>by grind[World.cell?])
     (λj O=>by
      grind[World.frozen?])
    rw[aq]at R;refine⟨_,_,_,R,?_,by rw[show loc.off+i*loc.esz+n*loc.esz=loc.off+(i+n)*loc.esz by grind];omega,λan=>⟨loc,by grind[Env.hG],by grind[C7],.inl (by rw[Env.hq,an,Nat.zero_mul,Nat.add_zero])⟩⟩;refine bA.az (ρ:=ρ.dG H.next _) H.next 0 (n+a.length) Z ⟨loc.block,loc.off+i*loc.esz,loc.esz,loc.size⟩ _ c (Env.hq _ _ _) x (λk b=>al) (λ_=>⟨aX,?_⟩)
    grind
  ·
    obtain⟨r,m,g,Y,aa,p⟩:=EE s aC (ot:=ot) aA ty hu aF aj aG aH aB d1 d2 d3 aE aK aL aM (A o) n c B hold ad L.1 L.2;have Q:=ae.bq q;refine⟨r,m,g,Y,aa,p.dead aX (λk=> ?_),λ_=> ?_⟩
    rotate_left
    ·have N:(H.push (eQ ot loc.esz ((d.drop i).take n++a))).get l=A (eQ ot loc.esz d):=by grind[ae.eW]
     obtain⟨y,E,⟨a4,U,f,W,T,aN,aO⟩,_⟩:=uZ p.rel N;obtain rfl:loc=y:=Option.some.inj ((p.le _ _ aw).symm.trans E);refine⟨loc,E,zi T,.inr ⟨⟨rfl,U,f,W,T,⟨aN.1,λe=>by cases e⟩,aO⟩,?_⟩⟩;rintro⟨k,aJ,bV,b9,aI⟩;have u:k≠l:=by
      rintro rfl;have:((H.set k .dead).push (eQ ot loc.esz ((d.drop i).take n++a))).get k=A .dead:=by rw[ae.eW (by simp;omega),ae.cH Q]
      rcases bV with⟨_,_,h⟩|⟨_,h⟩|⟨_,_,_,h⟩<;>(rw[this]at h;cases h)
     have aD:(H.push (eQ ot loc.esz ((d.drop i).take n++a))).rw k:=by
      have e:((H.set l .dead).push (eQ ot loc.esz ((d.drop i).take n++a))).get k=(H.push (eQ ot loc.esz ((d.drop i).take n++a))).get k:=by
       by_cases b:k=H.next
       ·subst b;rw[ae.a2];exact ae.a2 (H.set l .dead) _
       ·rw[ae.eW (fA b),ae.b8 ad,ae.eW b]
      grind[ae.rw]
     exact p.rel.apart k l aJ loc aD (px N).live u b9 E aI
    by_cases b:k=H.next
    ·subst b;left;rw[ae.a2];exact ae.a2 (H.set l .dead) _
    ·by_cases u:k=l
     ·subst u;right;rw[ae.eW (fA b),ae.cH Q]
     ·left;rw[ae.eW (fA b),ae.b8 ad,ae.eW b]
theorem IZ(z:Array Value):∀n,(Builtin.zeroCells z n).toList=(List.replicate n z.toList).flatten
 |0=>by simp[Builtin.zeroCells]
 |n+1=>by
  rw[List.replicate_succ,List.flatten_cons,<-IZ z n];apply List.ext_getElem?;intro i;simp only[Builtin.zeroCells,Array.toList_map,Array.toList_range,List.getElem?_map];by_cases aP:i<(n+1)*z.size
  ·have a:0<z.size:=by
    grind
   rw[List.getElem?_range aP];by_cases ai:i<z.size
   ·grind[Nat.mod_eq_of_lt]
   grind[Nat.mod_eq_sub_mod]
  grind
theorem afP(t a ty e:TypeId)(i:TypeInfo)(z:Value)(ba:P.underlying t=A (.slice e))(aP:P.info? e=A i)(c:i.zero=A z)(aE:P.underlying a=A (.int .i64))(n:Nat)(aL:0<n)(k:0<i.size)
  (h:n*i.bytes<=140737488355328) (g:n<=1125899906842624) (j:Builtin.nextslicecap n 0*i.bytes<=281474976710656):
  (Builtin.append_ #[t,a] ty #[.slice Z 0 0,.int .i64 n]).run P w=
   .ok (.slice (A ⟨w.heap.size,0,Z⟩) n (grownCap w n 0 e)) (w.drew.alloc (.cells (Builtin.zeroCells z.cells n++Builtin.zeroCells z.cells (grownCap w n 0 e-n)) e)):=by
 have hw:IntKind.i64.wrap (n:Int)=n:=(by grind[IntWalk.i64_in]);have ah:¬((n:Int)<0):=ad;have ai:¬((n:Int)*(i.bytes:Int)>281474976710656):=by
  omega
 have ax:¬(n<=0):=ad;have aM:¬(9223372036854775807<(n:Int)):=ad;have b:¬(281474976710656<Builtin.nextslicecap n 0*i.bytes):=ad;have d:¬(n*i.size=0):=by
  grind[Nat.mul_eq_zero]
 have f:¬(n=0\/i.size=0):=ad;simp[Builtin.append_,run_underlying ba,run_underlying aE,sizeOf,typeInfo,zeroValue,aP,c,ah,ai,aM,b,hw,asInt,asIntOf,Question.forced,newRow,grownCap,Builtin.firstCells];grind
theorem SV{ρ:Env}{cs:List af}{xs:List Value}(h:bU ρ cs xs):∀n,bU ρ (List.replicate n cs).flatten (List.replicate n xs).flatten
 |0=> .nil
 |n+1=>by rw[List.replicate_succ,List.replicate_succ,List.flatten_cons,List.flatten_cons];exact h.append (SV h n)
theorem TR(y:Rel ρ H w){t j e:TypeId}{s x a:af}{m p:Value}{H':ae}(ty:TypeId)(hu:P.underlying t=A (.slice e))(M:P.underlying j=A (.int .i64))(h:yH P H e s x=A (a,H'))(B:H.next<H'.next->ρ H.next=Z)(L:bA ρ s m)(aE:bA ρ x p):
  ∃r o q,(Builtin.append_ #[t,j] ty #[m,p]).run P w= .ok r o/\bA q a r/\Step ρ H w q H' o:=by
 unfold yH at h;split at h
 ·rename_i n;cases L;cases aE;split at h
  ·rename_i esz iV z f d g;split at h
   ·rename_i aA;obtain⟨aL,V,G,U,l,v⟩:=aA;simp only[bD,eF]at h;obtain⟨rfl,rfl⟩:=h;have aC:=B aX;unfold fX at g;unfold cE at f;unfold lW at d;simp only[eV]at g;obtain⟨i,aP,c,Q,R⟩:=g;rw[aP]at f d;simp only[Option.map_some,bD]at f d;subst f;subst d;have N:=(zT R ρ).cells;have O:c.cells.size=i.size:=by have:=N.length;grind
    have S:=growslice_fits (need:=n) (old:=0) (bytes:=i.bytes) ad l;have K:=afP (P:=P) (w:=w) t j ty e i c hu aP Q M n aL G l v ad;have b:=vb (w:=w.drew) y.drew aC (ot:=none) (esz:=i.size) (els:=List.replicate n z.cells) al al
     (xs:=(Builtin.zeroCells c.cells n).toList) (tail:=(Builtin.zeroCells c.cells (grownCap w n 0 e-n)).toList) (by grind[IZ,SV]) e (λ_ h=>by cases h)
    have u:((Builtin.zeroCells c.cells n).toList++(Builtin.zeroCells c.cells (grownCap w n 0 e-n)).toList).toArray=Builtin.zeroCells c.cells n++Builtin.zeroCells c.cells (grownCap w n 0 e-n):=by
     grind
    rw[u]at b;refine⟨_,_,_,K,?_,⟨b.le,b.next,b.keep,b.rel,b.os,b.tape,b.output,b.size,b.frame,b.own,b.ro,b.olds⟩⟩;have E:n<=grownCap w n 0 e:=grownCap_ge w n 0 e;refine bA.az (ρ:=ρ.dG H.next _) H.next 0 n Z _ _ (grownCap w n 0 e) (Env.hq _ _ _) E (λk T=>al) (λ_=>⟨by show(⟨w.heap.size,0,Z⟩:Addr)=⟨w.heap.size,0+0*i.size,Z⟩;simp,?_⟩)
    simp only[Nat.zero_add,Array.length_toList,size_zeroCells,O];rw[<-Nat.add_mul];grind
   grind
  grind
 grind
theorem Tn(b:Rel ρ H w){ts:List TypeId}{s x a:af}{ah V:Value}{H':ae}(ty:TypeId)(h:eA P H ts s x=A (a,H'))(q:H.next<H'.next->ρ H.next=Z)(G:bA ρ s ah)(aE:bA ρ x V):
  ∃r g m,(Builtin.append_ ts.toArray ty #[ah,V]).run P w= .ok r g/\bA m a r/\Step ρ H w m H' g:=by
 unfold eA at h;split at h
 ·rename_i t aB;split at h
  ·rename_i e hu;split at h
   ·rename_i ak;exact TR b ty hu (ZQ ak) h q G aE
   split at h
   ·rename_i esz iV z L B M;split at h
    ·rename_i O ap;obtain⟨d1,d2,news,d3,K⟩:=T4 (P:=P) b ap aE;split at h
     ·rename_i av;obtain⟨N,E⟩:=av;have aH:O.length=0->Src P esz aB V 0 [] w:=λf=>by
       have:O=[]:=al;subst this;have:news=[]:=by cases d3;rfl
       grind
      split at h
      ·cases G;split at h
       ·rename_i f;simp only[bD,eF]at h;obtain⟨rfl,rfl⟩:=h;exact⟨_,_,_,(by grind[Qc]),.ao,Step.refl b⟩
       ·rename_i f;split at h
        ·rename_i p;simp only[bD,eF]at h;obtain⟨rfl,rfl⟩:=h;have aC:=q aX;have:=EE b aC (Ua (x:=x)) ty hu L B M N E d1 d2 d3 K (os:=[]) aX aX (olds:=[]) (by simpa using bU.nil) Z 0 0 rfl
          (by grind[run_firstCells_none]) ad al ad
         grind
        grind
      ·rename_i l i n aD cap;split at h
       ·rename_i he;split at h
        ·rename_i f;simp only[bD,eF]at h;obtain⟨rfl,rfl⟩:=h;cases G with|az _ _ _ _ loc d c aw aL aA o=>
         exact⟨_,_,_,(by grind[Qc]),.az l i n cap loc d c aw aL aA o,Step.refl b⟩
        ·rename_i f;split at h
         ·rename_i p;split at h
          ·rename_i os Q;cases G with|az _ _ _ _ loc d c aw aL aA o=>
           subst he;obtain⟨R,S,T,olds,U,ax,ay,aJ⟩:=DI b Q aw;have hold:(Builtin.firstCells loc.esz n (.slice (A d) n c)).run P w.drew= .ok olds.toArray w.drew:=by
            refine run_firstCells_some w.drew loc.esz n d n c olds ax (λj u aq=> ?_);have an:0<c:=by
             grind
            obtain⟨rfl,_⟩:=o an;rw[na];exact ay j u aq
           split at h
           ·rename_i aF;simp only[bD,eF]at h;obtain⟨rfl,rfl⟩:=h;have aC:=q aX;have am:c<n+O.length:=by
             cases aG:cap with
             |none=>grind
             |some k=>grind
            exact EE b aC (ot:=none) (λ_ h=>by cases h) ty hu L B M N E d1 d2 d3 K S T U (A d) n c R hold am p.1 p.2
           ·split at h
            ·rename_i aa;split at h
             ·rename_i ai aj v;simp only[bD,eF]at h;obtain⟨rfl,rfl⟩:=h;obtain⟨r,g,m,W,Y,z3,z4⟩:=Mq b (q aX) (ot:=none) (λ_ h=>by cases h) ty hu aa f L B M N E d1 d2 d3 K R S T U d c hold p aw o (λ_ h=>by cases h) v Q;refine⟨r,g,m,W,Y,z3.ab_ aX λk=> ?_⟩;have ab:=ae.bq v;by_cases y:k=H.next
              ·subst y;left;exact(ae.a2 (H.set l _) _).trans (ae.a2 (H.set l .dead) _).symm
              ·by_cases ar:k=l
               ·subst ar;rw[ae.eW (fA y),ae.cH ab,ae.eW (fA y),ae.cH ab];cases i with
                |zero=>exact .inr ⟨rfl,_,_,_,rfl,z4 rfl,loc,z3.le _ _ aw,_,loc,.inl ⟨_,_,v⟩,aw,rfl⟩
                |succ i=>exact .inl rfl
               ·left;rw[ae.eW (fA y),ae.b8 ad,ae.eW (fA y),ae.b8 ad]
             ·rename_i t0 ai aj v;split at h
              ·rename_i aI;simp only[bD,eF]at h;obtain⟨rfl,rfl⟩:=h;obtain⟨r,g,m,W,Y,z3,_⟩:=Mq b (q aX) (ot:=some t0) al ty hu aa f L B M N E d1 d2 d3 K R S T U d c hold p aw o ad v Q;exact⟨r,g,m,W,Y,z3⟩
              grind
             grind
            grind
          grind
         grind
       grind
      grind
     grind
    grind
   grind
  grind
 grind
end
section
variable {P:Program}{ρ:Env}{H:ae}{w:World}
def uq(P:Program)(H:ae)(t:TypeId)(x:af):Option af:=
 match P.underlying t,x with
 |some .string,.str s=>A (.int .i64 s.length)
 |some (.slice _),.az _ _ n _ _=>A (.int .i64 n)
 |some (.slice _),.ao=>A (.int .i64 0)
 |some (.array n _),_=>A (.int .i64 n)
 |some (.map _ _),.js=>A (.int .i64 0)
 |some (.map _ _),.map l=>(match H.get l with|some (.map es)=>A (.int .i64 es.length)|_=>Z)
 |_,_=>Z
theorem uG{l:Nat}{es:List (af×af)}(a:Rel ρ H w)(aS:H.get l=A (.map es)){loc:Loc}(aw:ρ l=A loc):
  ∃ents clock,w.heap[loc.block]? =A (.map ents clock)/\(getObj loc.block).run P w= .ok (.map ents clock) w/\bU ρ (es.map (·.1)) (ents.toList.map (·.key))/\bU ρ (es.map (·.2)) (ents.toList.map (·.val)):=by
 obtain⟨d,c,ents,clock,b,ah,ai⟩:=a.map _ _ aS;grind[getObj,Sem.run]
theorem TL(b:Rel ρ H w){t:TypeId}{x v:af}{a:Value}(ty:TypeId)(h:uq P H t x=A v)(aE:bA ρ x a):∃r,(Builtin.len_ #[t] ty #[a]).run P w= .ok r w/\bA ρ v r:=by
 unfold uq at h;split at h
 ·rename_i s hu;cases aE;simp only[bD]at h;subst h;have d:(⟨s.toArray⟩:ByteArray).size=s.length:=by show s.toArray.size=_;simp
  exact⟨_,by simp[Builtin.len_,run_underlying hu,goInt,d],.int _ _⟩
 ·rename_i hu;cases aE;simp only[bD]at h;subst h;exact⟨_,by simp[Builtin.len_,run_underlying hu,goInt],.int _ _⟩
 ·rename_i hu;cases aE;simp only[bD]at h;subst h;exact⟨_,by simp[Builtin.len_,run_underlying hu,goInt],.int _ _⟩
 ·rename_i n e hu;simp only[bD]at h;subst h;exact⟨_,by simp[Builtin.len_,run_underlying hu,goInt],.int _ _⟩
 ·rename_i hu;cases aE;simp only[bD]at h;subst h;exact⟨_,by simp[Builtin.len_,run_underlying hu,goInt],.int _ _⟩
 ·rename_i hu;cases aE with|map _ loc aw=>
  split at h
  ·rename_i es aS;simp only[bD]at h;subst h;obtain⟨ents,clock,f,c,ah,ai⟩:=uG (P:=P) b aS aw;have hlen:=ah.length;simp only[List.length_map,Array.length_toList]at hlen;exact⟨_,by simp[Builtin.len_,run_underlying hu,goInt,c,<-hlen],.int _ _⟩
  grind
 grind
def DQ(x y:af):Option af:=
 match x,y with
 | .int k a,.int _ b=>A (.int k (if a<b then b else a))
 |_,_=>Z
def DR(x y:af):Option af:=
 match x,y with
 | .int k a,.int _ b=>A (.int k (if b<a then b else a))
 |_,_=>Z
theorem TT{x y v:af}{a b:Value}(ts:Array TypeId)(ty:TypeId)(h:DQ x y=A v)(aE:bA ρ x a)(c:bA ρ y b)(w:World):∃r,(Builtin.max_ ts ty #[a,b]).run P w= .ok r w/\bA ρ v r:=by
 unfold DQ at h;split at h
 ·cases aE;cases c;simp only[bD]at h;subst h;exact⟨_,by simp[Builtin.max_,Builtin.max2],.int _ _⟩
 grind
theorem TW{x y v:af}{a b:Value}(ts:Array TypeId)(ty:TypeId)(h:DR x y=A v)(aE:bA ρ x a)(c:bA ρ y b)(w:World):∃r,(Builtin.min_ ts ty #[a,b]).run P w= .ok r w/\bA ρ v r:=by
 unfold DR at h;split at h
 ·cases aE;cases c;simp only[bD]at h;subst h;exact⟨_,by simp[Builtin.min_,Builtin.min2],.int _ _⟩
 grind
def iS(x:af)(i:Nat):Option af:=
 match x with
 | .tuple ak=>ak[i]?
 |_=>Z
theorem TF{x v:af}{a:Value}{i:Nat}(h:iS x i=A v)(aE:bA ρ x a)(w:World):∃r,(Instr.extract a i).run P w= .ok r w/\bA ρ v r:=by
 unfold iS at h;split at h
 ·cases aE with|tuple _ xs b=>
  obtain⟨r,ar,c⟩:=b.get _ _ h;exact⟨r,by simp[Instr.extract,ar],c⟩
 grind
def r_(P:Program)(src dst:TypeId)(x:af):Option af:=
 match P.underlying src,P.underlying dst,x with
 |some _,A (.int k),.int _ n=>A (.int k (k.wrap n))
 |some _,A .string,.str s=>A (.str s)
 |_,_,_=>Z
theorem Tw{src dst:TypeId}{x v:af}{c:Value}(h:r_ P src dst x=A v)(aE:bA ρ x c)(w:World):∃r,(convert src dst c).run P w= .ok r w/\bA ρ v r:=by
 unfold r_ at h;split at h
 ·rename_i b a;cases aE;simp only[bD]at h;subst h;exact⟨_,by simp[convert,run_underlying b,run_underlying a,Conv.intToInt],.int _ _⟩
 ·rename_i b a;cases aE;simp only[bD]at h;subst h;exact⟨_,by simp[convert,run_underlying b,run_underlying a],.str _⟩
 grind
def byteOf:List af->Option UInt8
 |[.int .u8 n]=>A (UInt8.ofNat n.toNat)
 |_=>Z
def bytesOf:List (List af)->Option (List UInt8)
 |[]=>A []
 |e::r=>match byteOf e,bytesOf r with
  |some b,A l=>A (b::l)
  |_,_=>Z
def ui(P:Program)(H:ae)(src dst:TypeId)(x:af):Option af:=
 match P.underlying src,P.underlying dst,x with
 |some (.slice e),A .string,.az l i n esz _=>
  (match P.underlying e,iR H l i n esz with
  |some (.int .u8),A a=>if esz=1 then(bytesOf a).map .str else Z
  |_,_=>Z)
 |some (.slice e),A .string,.ao=>(match P.underlying e with|some (.int .u8)=>A (.str [])|_=>Z)
 |_,_,_=>Z
theorem Kd(f:Value->ByteArray->Sem (ForInStep ByteArray))(aC:∀n s,f (.int .u8 n) s=pure (ForInStep.yield (s.push (UInt8.ofNat n.toNat)))):∀(a:List (List af)) (bs:List UInt8),bytesOf a=A bs->∀(xs:List Value),bU ρ a.flatten xs->∀(acc:ByteArray),
  (forIn xs acc f).run P w= .ok (acc++⟨bs.toArray⟩) w
 |[],bs,h,xs,aE,acc=>by
  simp[bytesOf]at h;cases aE;have:acc++(⟨#[]⟩:ByteArray)=acc:=by apply ByteArray.ext;simp
  grind[Sem.run_pure]
 |d::a,bs,h,xs,aE,acc=>by
  unfold bytesOf at h;split at h
  ·rename_i b l c aw;simp only[bD]at h;subst h;unfold byteOf at c;split at c
   ·rename_i n;simp only[bD]at c;subst c;cases aE with|cons _ x _ j e g=>
    cases e;have i:=Kd f aC a l aw j g (acc.push (UInt8.ofNat n.toNat));rw[List.forIn_cons];simp only[Sem.run_bind,aC,Sem.run_pure,Result.andThen_ok];rw[i]
    congr 1
    apply ByteArray.ext;simp
   grind
  grind
theorem Ts(j:Rel ρ H w){src dst:TypeId}{x v:af}{f:Value}(h:ui P H src dst x=A v)(aE:bA ρ x f):∃r,(convert src dst f).run P w= .ok r w/\bA ρ v r:=by
 unfold ui at h;split at h
 ·rename_i e l i n esz cap d b;split at h
  ·rename_i g he m;split at h
   ·rename_i ah;simp only[Option.map_eq_some_iff]at h;obtain⟨bs,k,rfl⟩:=h;cases aE with|az _ _ _ _ loc a c aw aL aA t=>
    obtain⟨u,y,z,xs,q,s,B,E⟩:=DI j m aw;refine⟨.string ⟨bs.toArray⟩,?_,.str _⟩;have p:(loadCells a n).run P w= .ok xs.toArray w:=by
     rw[ah,Nat.mul_one]at s;grind[run_loadCells_list,na]
    have o:ByteArray.empty++(⟨bs.toArray⟩:ByteArray)=⟨bs.toArray⟩:=by apply ByteArray.ext;simp
    simp only[convert,Sem.run_bind,run_underlying d,run_underlying b,run_underlying he,Result.andThen_ok,Conv.bytesToString,p];rw[<-Array.forIn_toList];rw[Kd (P:=P) (w:=w) _ (λ_ _=>rfl) g bs k xs q ByteArray.empty,o];rfl
   grind
  grind
 ·rename_i e d b;cases aE;split at h
  ·rename_i he;simp only[bD]at h;subst h;exact⟨.string ⟨#[]⟩,by simp[convert,run_underlying d,run_underlying b,run_underlying he,Conv.bytesToString];rfl,.str []⟩
  grind
 grind
def hL(P:Program)(H:ae)(t:TypeId)(l c:af):Option (af×ae):=
 match P.underlying t,l,c with
 |some (.slice e),.int bV n,.int b9 m=>
  (match cE P e,lW P e,fX P e with
  |some a,A iV,A z=>
   if bV= .i64/\b9= .i64/\0<=n/\n<=m/\m<=9223372036854775807/\(iV:Int)*m<=281474976710656/\z.cells.length=a/\0<a/\z.cells.all af.one=J then
    A (.az H.next 0 n.toNat a (A m.toNat),H.push (.row I a (List.replicate m.toNat z.cells)))
   else Z
  |_,_,_=>Z)
 |_,_,_=>Z
theorem wrap_i64{n:Int}(a:0<=n)(ah:n<=9223372036854775807):IntKind.i64.wrap n=n:=(by grind[IntWalk.i64_in])
theorem TS(s:Rel ρ H w)(aC:ρ H.next=Z){t:TypeId}{l c a:af}{k g:Value}{H':ae}(h:hL P H t l c=A (a,H'))(aw:bA ρ l k)(aA:bA ρ c g):
  ∃r o p,(Instr.makeSlice t k g).run P w= .ok r o/\bA p a r/\Step ρ H w p H' o:=by
 unfold hL at h;split at h
 ·rename_i e bV n b9 m hu;cases aw;cases aA;split at h
  ·rename_i b iV z K S N;split at h
   ·rename_i u;obtain⟨rfl,rfl,i,ah,ai,ax,V,U,T⟩:=u;obtain⟨rfl,rfl⟩:=h;obtain⟨f,Q,O⟩:=oW N w;have j:=(O ρ).cells;have d:f.cells.size=b:=by have:=j.length;grind
    have E:=bU.Ew j m.toNat;have G:=vb s aC (ot:=none) (esz:=b) (els:=List.replicate m.toNat z.cells) al
     al E (tail:=[]) e (λ_ h=>by cases h)
    cases v:P.info? e with
    |none=>grind[cE]
    |some R=>
     have x:R.bytes=iV:=by grind[lW]
     have hlen:(List.replicate m.toNat f.cells.toList).flatten.length=m.toNat*b:=by simp[d]
     refine⟨.slice (A ⟨w.heap.size,0,Z⟩) n.toNat m.toNat,_,_,?_,?_,G⟩
     ·have L:=wrap_i64 i (Int.le_trans ah ai);have M:=wrap_i64 (Int.le_trans i ah) ai;have hzero:=Tc f.cells m.toNat ad;rw[d]at hzero;simp only[Instr.makeSlice,Sem.run_bind,run_underlying hu,Result.andThen_ok,asInt,asIntOf,Sem.run_pure,typeInfo,v,x,L,M,run_program];rw[if_neg al];simp only[Sem.run_bind,run_askRoom,Result.andThen_ok,run_sizeOf K];by_cases y:m.toNat*b=0
      ·have B:m.toNat=0:=by grind[Nat.mul_eq_zero]
       have q:Array.range 0= #[]:=rfl;simp[newRow,q,B]
      ·simp only[y,if_false,Sem.run_bind,Q,Result.andThen_ok,Sem.run_pure,d,hzero];simp[newRow]
     ·refine bA.az (ρ:=ρ.dG H.next _) H.next 0 n.toNat (A m.toNat) ⟨w.heap.size,0,b,_⟩ _ m.toNat (Env.hq _ _ _) ad aX (λ_=>⟨aX,?_⟩)
      grind
   grind
  grind
 grind
def DH(P:Program)(t:TypeId)(x:af):Option af:=
 match P.underlying t,x with
 |some (.slice _),.az _ _ _ _ (A k)=>A (.int .i64 k)
 |some (.slice _),.ao=>A (.int .i64 0)
 |_,_=>Z
theorem Tu{t:TypeId}{x v:af}{b:Value}(ty:TypeId)(h:DH P t x=A v)(aE:bA ρ x b)(w:World):∃r,(Builtin.cap_ #[t] ty #[b]).run P w= .ok r w/\bA ρ v r:=by
 unfold DH at h;split at h
 ·rename_i e l i n esz k hu;cases aE with|az _ _ _ _ loc a c aw aL aA d=>
  obtain rfl:=aA k rfl;simp only[bD]at h;subst h;exact⟨_,by simp[Builtin.cap_,run_underlying hu,goInt],.int _ _⟩
 ·rename_i e hu;cases aE;simp only[bD]at h;subst h;exact⟨_,by simp[Builtin.cap_,run_underlying hu,goInt],.int _ _⟩
 grind
def RI(b:Nat):∀(xs a:List Value) (o:Nat) (w:World),w.setCells b o (xs++a)=(w.setCells b o xs).setCells b (o+xs.length) a
 |[],a,o,w=>by simp[World.setCells]
 |x::xs,a,o,w=>by
  simp only[List.cons_append,World.setCells];rw[RI b xs a,List.length_cons,show o+1+xs.length=o+(xs.length+1) by omega]
def qw(H:ae)(l:Nat)(cs:List af):Nat->Nat->Option ae
 |_,0=>A H
 |i,k+1=>match H.get l with
  |some (.row I esz els)=>(match els[i]? with
   |some e=>if cs.length=esz then(qw (H.set l (.row I esz (els.set i (fU e 0 cs)))) l cs (i+1) k)else Z
   |none=>Z)
  |_=>Z
theorem KC{l:Nat}{loc:Loc}{cs:List af}{xs:List Value}(a:bU ρ cs xs)(ah:∀v∈cs,v.one=J)(aw:ρ l=A loc)(hlen:cs.length=loc.esz):
  ∀(k i:Nat) (H H':ae) (w:World),Rel ρ H w->qw H l cs i k=A H'->Step ρ H w ρ H' (w.setCells loc.block (loc.off+i*loc.esz) (List.replicate k xs).flatten)
 |0,i,H,H',w,b,h=>by
  grind[qw,World.setCells,Step.refl]
 |k+1,i,H,H',w,b,h=>by
  unfold qw at h;split at h
  ·rename_i esz els aS;split at h
   ·rename_i e he;split at h
    ·have s1:=S9 b (ot:=none) aS aw he (c:=0) (cs:=cs) ad ah a;have s2:=KC a ah aw hlen k (i+1) _ H' _ s1.rel h;have gb:=s1.trans s2;rw[List.replicate_succ,List.flatten_cons,RI,<-a.length,hlen,show loc.off+i*loc.esz+loc.esz=loc.off+(i+1)*loc.esz by grind];omega
    grind
   grind
  grind
theorem VG{l:Nat}{cs:List af}:∀{k i:Nat} {H H':ae},0<k->qw H l cs i k=A H'->∃esz els,H.get l=A (.row I esz els)/\cs.length=esz
 |0,_,_,_,h,_=>ad
 |k+1,i,H,H',_,h=>by
  grind[qw]
def yD(P:Program)(H:ae)(ts:List TypeId)(x:af):Option ae:=
 match ts with
 |[t]=>(match P.underlying t with
  |some (.slice e)=>(match x with
   | .ao=>A H
   | .az l i n _ _=>if n=0 then A H else(match fX P e with
    |some z=>if z.cells.all af.one=J then qw H l z.cells i n else Z
    |none=>Z)
   |_=>Z)
  |_=>Z)
 |_=>Z
theorem Tv(b:Rel ρ H w){ts:List TypeId}{x:af}{o:Value}{H':ae}(ty:TypeId)(h:yD P H ts x=A H')(aE:bA ρ x o):
  ∃k,(Builtin.clear_ ts.toArray ty #[o]).run P w= .ok (.tuple #[]) k/\Step ρ H w ρ H' k:=by
 unfold yD at h;split at h
 ·split at h
  ·rename_i e hu;split at h
   ·cases aE;simp only[bD]at h;subst h;exact⟨w,by simp[Builtin.clear_,run_underlying hu],Step.refl b⟩
   ·rename_i l i n esz cap;cases aE with|az _ _ _ _ loc a c aw aL aA q=>
    split at h
    ·rename_i p;subst p;simp only[bD]at h;subst h;exact⟨w,by simp[Builtin.clear_,run_underlying hu],Step.refl b⟩
    ·split at h
     ·rename_i z O;split at h
      ·rename_i B;have E:∀v∈z.cells,v.one=true:=List.all_eq_true.1 B;obtain⟨y,L,N⟩:=oW O w;have d:=(N ρ).cells;obtain⟨S,els,aS,W⟩:=VG ad h;obtain⟨Q,am,Y,arr,t0,T,V,ab,an⟩:=b.row _ _ _ _ aS;obtain rfl:loc=Q:=al;have hlen:z.cells.length=loc.esz:=ad;have r:0<c:=ad;obtain⟨rfl,aa⟩:=q r;have g:=KC d E aw hlen n i H H' w b h;have M:y.cells.toList.length=loc.esz:=by rw[<-d.length];omega
       have U:((List.replicate n y.cells.toList).flatten).length=n*loc.esz:=by simp[M]<;>rfl
       have aj:∀j,j<n*loc.esz->loc.off+i*loc.esz+j<arr.size:=by
        have ah:(i+c)*loc.esz=i*loc.esz+c*loc.esz:=Nat.add_mul _ _ _;have ai:n*loc.esz<=c*loc.esz:=Nat.mul_le_mul_right _ aL;omega
       have f:=run_storeCells_cells (P:=P) loc.block (loc.off+i*loc.esz) (List.replicate n y.cells.toList).flatten 0 w
        (by grind[World.cell?])
        (by grind[World.frozen?])
        (λu hu=>by
         obtain⟨l2,t,G⟩:=List.mem_flatten.1 hu;obtain rfl:=List.eq_of_mem_replicate t;obtain⟨j,ak⟩:=List.getElem?_of_mem G;have s:j<z.cells.length:=by
          grind
         obtain⟨R,ap,K⟩:=d.get j _ (List.getElem?_eq_getElem s);obtain rfl:u=R:=al;exact K.FI al)
       rw[<-IZ]at f g;refine⟨_,?_,g⟩;cases n with
       |zero=>omega
       |succ m=>
        simp only[Builtin.clear_];simp[run_underlying hu,L];rw[f];simp
      grind
     grind
   grind
  grind
 grind
end
section
variable {P:Program}{ρ:Env}{H:ae}{w:World}
def pd(d:TypeDesc)(a b:af):Option Bool:=
 match d,a,b with
 | .int _,.int k x,.int c y=>if k=c then A (x==y)else Z
 | .string,.str x,.str y=>A (x==y)
 | .bool,.bool x,.bool y=>A (x==y)
 |_,_,_=>Z
def nV(d:TypeDesc)(k:af):List (af×af)->Nat->Option (Option (Nat×af))
 |[],_=>A Z
 |e::es,i=>match pd d k e.1 with
  |some J=>A (A (i,e.2))
  |some I=>nV d k es (i+1)
  |none=>Z
theorem MR{d:TypeDesc}{a b:af}{b1 b':Value}{r:Bool}(h:pd d a b=A r)(c:bA ρ a b1)(e:bA ρ b b'):Instr.sameNow d b1 b'=A r:=by
 unfold pd at h;split at h
 ·cases c;cases e;grind[Instr.sameNow]
 ·cases c;cases e;grind[Instr.sameNow,IA]
 ·cases c;cases e;grind[Instr.sameNow]
 grind
inductive ua(ρ:Env):Option (Nat×af)->Option (Nat×Value)->Prop where
 |none:ua ρ none none
 |some (i:Nat) (v:af) (x:Value) (h:bA ρ v x):ua ρ (some (i,v)) (some (i,x))
theorem uo{d:TypeDesc}{k:af}{f:Value}(a:bA ρ k f):∀(es:List (af×af)) (ents:List MapEntry) (i:Nat) (r:Option (Nat×af)),nV d k es i=A r->
  bU ρ (es.map (·.1)) (ents.map (·.key))->bU ρ (es.map (·.2)) (ents.map (·.val))->∃df,Instr.findNow d f ents i=A df/\ua ρ r df/\∀j v,r=A (j,v)->i<=j/\j<i+es.length/\∃e,es[j-i]? =A e/\pd d k e.1=A J
 |[],ents,i,r,h,ah,ai=>by
  simp[nV]at h;subst h;have:ents=[]:=by
   have:=ah.length;grind
  subst this;exact⟨Z,rfl,.none,λj v h=>by cases h⟩
 |e::es,[],i,r,h,ah,ai=>by have:=ah.length;grind
 |e::es,m::ents,i,r,h,ah,ai=>by
  simp only[List.map_cons]at ah ai;cases ah with|cons _ _ _ _ c l=>
  cases ai with|cons _ _ _ _ g n=>
  unfold nV at h;unfold Instr.findNow;split at h
  ·rename_i b;simp only[bD]at h;subst h;rw[MR b a c];exact⟨_,rfl,.some i _ _ g,al⟩
  ·rename_i b;rw[MR b a c];obtain⟨df,ax,aM,o⟩:=uo a es ents (i+1) r h l n;grind
  grind
def plainKey(d:TypeDesc):Bool:=
 match d with
 | .int _| .string| .bool=>J
 |_=>I
def yZ{t:TypeId}{d:TypeDesc}(hu:P.underlying t=A d)(a:plainKey d=J)(empty:Bool)(v:Value)(n:Nat)(w:World):(Instr.checkKey empty (n+1) t v).run P w= .ok () w:=by
 unfold Instr.checkKey;simp only[Sem.run_bind,run_underlying hu,Result.andThen_ok];cases d<;>simp[plainKey]at a<;>rfl
def pA(P:Program)(d:TypeDesc)(k:af):Bool:=
 match d,k with
 | .array 2 e,.agg cs=>(match P.underlying e with|some (.int _)=>J|_=>I)&&(match cE P e with|some n=>(apart P e cs (0*n)).isSome&&(apart P e cs (1*n)).isSome|none=>I)
 |_,_=>I
theorem Ed{t:TypeId}{d:TypeDesc}{k:af}{b:Value}(hu:P.underlying t=A d)(a:pA P d k=J)(g:bA ρ k b)(empty:Bool)(n:Nat)(w:World):(Instr.checkKey empty (n+2) t b).run P w= .ok () w:=by
 unfold pA at a;split at a
 ·rename_i e cs;simp only[Bool.and_eq_true]at a;obtain⟨ah,ai⟩:=a;split at ah
  ·rename_i i he;split at ai
   ·rename_i m hm;simp only[Bool.and_eq_true]at ai;obtain⟨a0,ax⟩:=Option.isSome_iff_exists.1 ai.1;obtain⟨h,aM⟩:=Option.isSome_iff_exists.1 ai.2;cases g with|agg _ xs aE=>
    obtain⟨j,c,_⟩:=oV ax aE w;obtain⟨x1,f,_⟩:=oV aM aE w;have aA:∀v:Value,(Instr.checkKey empty (n+1) e v).run P w= .ok () w:=λv=>yZ he rfl empty v n w
    unfold Instr.checkKey;simp only[Sem.run_bind,run_underlying hu,Result.andThen_ok];rw[Std.Legacy.Range.forIn_eq_forIn_range'];simp only[Nat.zero_mul,Nat.one_mul]at c f;simp[List.range',run_sizeOf hm,c,f,aA]
   grind
  grind
 grind
def nb(P:Program)(a:TypeId)(k:af):List (af×af)->Nat->Option (Option (Nat×af))
 |[],_=>A Z
 |e::es,i=>match jg P 10000 a k e.1 with
  |some J=>A (A (i,e.2))
  |some I=>nb P a k es (i+1)
  |none=>Z
theorem Jq{b:TypeId}{k:af}{a:Value}(c:bA ρ k a)(w:World):∀(es:List (af×af)) (ents:List MapEntry) (i:Nat) (r:Option (Nat×af)),nb P b k es i=A r->
  bU ρ (es.map (·.1)) (ents.map (·.key))->bU ρ (es.map (·.2)) (ents.map (·.val))->∃df,(Instr.findAsking b a ents i).run P w= .ok df w/\ua ρ r df
 |[],ents,i,r,h,ah,ai=>by
  simp[nb]at h;subst h;have:ents=[]:=by
   have:=ah.length;grind
  subst this;exact⟨Z,rfl,.none⟩
 |e::es,[],i,r,h,ah,ai=>by have:=ah.length;grind
 |e::es,m::ents,i,r,h,ah,ai=>by
  simp only[List.map_cons]at ah ai;cases ah with|cons _ _ _ _ f j=>
  cases ai with|cons _ _ _ _ g l=>
  unfold nb at h;unfold Instr.findAsking;split at h
  ·rename_i d;simp only[bD]at h;subst h;have he:(Op.equal b a m.key).run P w= .ok J w:=uD (ρ:=ρ) w _ _ _ _ _ _ _ d c f;exact⟨_,by simp[he],.some i _ _ g⟩
  ·rename_i d;have he:(Op.equal b a m.key).run P w= .ok I w:=uD (ρ:=ρ) w _ _ _ _ _ _ _ d c f;obtain⟨df,ax,aM⟩:=Jq c w es ents (i+1) r h j l;exact⟨df,by simp[he,ax],aM⟩
  grind
def Yi{n:Nat}{e:TypeId}{a:Value}:∀(ents:List MapEntry) (i:Nat),Instr.findNow (.array n e) a ents i=match ents with|[]=>A Z|_=>Z
 |[],_=>rfl
 |m::_,i=>by cases a<;>rfl
theorem Eu{a:TypeId}{d:TypeDesc}{k:af}{b:Value}(hu:P.underlying a=A d)(f:pA P d k=J)(c:bA ρ k b)(w:World){es:List (af×af)}{ents:List MapEntry}{r:Option (Nat×af)}(h:nb P a k es 0=A r)
  (ah:bU ρ (es.map (·.1)) (ents.map (·.key))) (ai:bU ρ (es.map (·.2)) (ents.map (·.val))):∃df,(Instr.findKey a b ents).run P w= .ok df w/\ua ρ r df:=by
 obtain⟨n,e,rfl⟩:∃n e,d= .array n e:=by
  unfold pA at f;grind
 obtain⟨df,ax,aM⟩:=Jq (P:=P) c w es ents 0 r h ah ai;refine⟨df,?_,aM⟩;unfold Instr.findKey;simp only[Sem.run_bind,run_underlying hu,Result.andThen_ok,Yi];cases ents with
 |nil=>exact ax
 |cons m ents=>omega
def l9(P:Program)(H:ae)(t:TypeId)(x k:af)(a:Bool):Option af:=
 match P.underlying t with
 |some (.map b c)=>
  (match P.underlying b,fX P c with
  |some d,A z=>
   if plainKey d=J then
    (match(match x with| .js=>A []| .map l=>(match H.get l with|some (.map es)=>A es|_=>Z)|_=>Z)with
    |some es=>
     (match nV d k es 0 with
     |some (A (_,v))=>A (if a then .tuple [v,.bool J]else v)
     |some Z=>A (if a then .tuple [z,.bool I]else z)
     |none=>Z)
    |none=>Z)
   else if pA P d k=J then
    (match(match x with| .js=>A []| .map l=>(match H.get l with|some (.map es)=>A es|_=>Z)|_=>Z)with
    |some es=>
     (match nb P b k es 0 with
     |some (A (_,v))=>A (if a then .tuple [v,.bool J]else v)
     |some Z=>A (if a then .tuple [z,.bool I]else z)
     |none=>Z)
    |none=>Z)
   else Z
  |_,_=>Z)
 |_=>Z
theorem TP(K:Rel ρ H w){t:TypeId}{x k v:af}{s n:Value}{ok:Bool}(h:l9 P H t x k ok=A v)(aE:bA ρ x s)(m:bA ρ k n):
  ∃r,(Instr.lookup t s n ok).run P w= .ok r w/\bA ρ v r:=by
 unfold l9 at h;split at h
 ·rename_i N Q hu;split at h
  ·rename_i d z b L;split at h
   ·rename_i f;split at h
    ·rename_i es a;obtain⟨j,q,G⟩:=oW L w;have u:∃ents:Array MapEntry,bU ρ (es.map (·.1)) (ents.toList.map (·.key))/\bU ρ (es.map (·.2)) (ents.toList.map (·.val))/\
       ∀df:Option (Nat×Value),Instr.findNow d n ents.toList 0=A df->(Instr.lookup t s n ok).run P w=
       .ok (match df with|some (_,v)=>(if ok then .tuple #[v,.bool J]else v)|none=>(if ok then .tuple #[j,.bool I]else j)) w:=by
      split at a
      ·cases aE;simp only[bD]at a;subst a;refine⟨#[],by simpa using bU.nil,by simpa using bU.nil,λdf g=> ?_⟩;unfold Instr.lookup;simp only[Sem.run_bind,run_underlying hu,Result.andThen_ok,Sem.run_pure];rw[yZ b f];simp only[Result.andThen_ok,Instr.findKey,Sem.run_bind,run_underlying b,g,Sem.run_pure];cases df with
       |none=>simp[q]
       |some p=>obtain⟨i,v⟩:=p;simp
      ·cases aE with|map l loc aw=>
       split at a
       ·rename_i es' aS;simp only[bD]at a;subst a;obtain⟨ents,clock,M,B,ah,ai⟩:=uG (P:=P) K aS aw;refine⟨ents,ah,ai,λdf g=> ?_⟩;unfold Instr.lookup;simp only[Sem.run_bind,run_underlying hu,Result.andThen_ok,Sem.run_pure,B];rw[yZ b f];simp only[Result.andThen_ok,Instr.findKey,Sem.run_bind,run_underlying b,g,Sem.run_pure];cases df with
        |none=>simp[q]
        |some p=>obtain⟨i,v⟩:=p;simp
       grind
      grind
     obtain⟨ents,ah,ai,o⟩:=u;split at h
     ·rename_i i O aC;simp only[bD]at h;subst h;obtain⟨df,c,e,_⟩:=uo m es ents.toList 0 _ aC ah ai;cases e with|some _ _ y E=>
      refine⟨_,o _ c,?_⟩;cases ok
      ·grind
      ·exact .tuple _ [y,.bool J] (.cons _ _ _ _ E (.cons _ _ _ _ (.bool _) .nil))
     ·rename_i aC;simp only[bD]at h;subst h;obtain⟨df,c,e,_⟩:=uo m es ents.toList 0 _ aC ah ai;cases e;refine⟨_,o _ c,?_⟩;cases ok
      ·grind
      ·exact .tuple _ [j,.bool I] (.cons _ _ _ _ (G ρ) (.cons _ _ _ _ (.bool _) .nil))
     grind
    grind
   ·split at h
    ·rename_i f;split at h
     ·rename_i es a;obtain⟨j,q,G⟩:=oW L w;have u:∃ents:Array MapEntry,bU ρ (es.map (·.1)) (ents.toList.map (·.key))/\bU ρ (es.map (·.2)) (ents.toList.map (·.val))/\
        ∀df:Option (Nat×Value),(Instr.findKey N n ents.toList).run P w= .ok df w->(Instr.lookup t s n ok).run P w=
        .ok (match df with|some (_,v)=>(if ok then .tuple #[v,.bool J]else v)|none=>(if ok then .tuple #[j,.bool I]else j)) w:=by
       split at a
       ·cases aE;simp only[bD]at a;subst a;refine⟨#[],by simpa using bU.nil,by simpa using bU.nil,λdf g=> ?_⟩;unfold Instr.lookup;simp only[Sem.run_bind,run_underlying hu,Result.andThen_ok,Sem.run_pure];rw[Ed b f m];simp only[Result.andThen_ok,g];cases df with
        |none=>simp[q]
        |some p=>obtain⟨i,v⟩:=p;simp
       ·cases aE with|map l loc aw=>
        split at a
        ·rename_i es' aS;simp only[bD]at a;subst a;obtain⟨ents,clock,M,B,ah,ai⟩:=uG (P:=P) K aS aw;refine⟨ents,ah,ai,λdf g=> ?_⟩;unfold Instr.lookup;simp only[Sem.run_bind,run_underlying hu,Result.andThen_ok,Sem.run_pure,B];rw[Ed b f m];simp only[Result.andThen_ok,g];cases df with
         |none=>simp[q]
         |some p=>obtain⟨i,v⟩:=p;simp
        grind
       grind
      obtain⟨ents,ah,ai,o⟩:=u;split at h
      ·rename_i i O aC;simp only[bD]at h;subst h;obtain⟨df,c,e⟩:=Eu b f m w aC ah ai;cases e with|some _ _ y E=>
       refine⟨_,o _ c,?_⟩;cases ok
       ·grind
       ·exact .tuple _ [y,.bool J] (.cons _ _ _ _ E (.cons _ _ _ _ (.bool _) .nil))
      ·rename_i aC;simp only[bD]at h;subst h;obtain⟨df,c,e⟩:=Eu b f m w aC ah ai;cases e;refine⟨_,o _ c,?_⟩;cases ok
       ·grind
       ·exact .tuple _ [j,.bool I] (.cons _ _ _ _ (G ρ) (.cons _ _ _ _ (.bool _) .nil))
      grind
     grind
    grind
  grind
 grind
def DP(H:ae):af×ae:=(.map H.next,H.push (.map []))
def TQ(c:Rel ρ H w)(aC:ρ H.next=Z)(t:TypeId):∃r a b,(Instr.makeMap t Z).run P w= .ok r a/\bA b (DP H).1 r/\Step ρ H w b (DP H).2 a:=by
 have d:=Pf c aC (.map []) rfl rfl (.map #[] 0) ⟨w.heap.size,0,0,0⟩ rfl (λ_ _ _ h=>by cases h) (λes h=>by
  simp only[bz.map.injEq]at h;subst h;exact⟨#[],0,heap_alloc_new _ _,by simpa using bU.nil,by simpa using bU.nil⟩) (λ_ _ _ h=>by cases h)
 refine⟨.map (A w.heap.size),_,_,?_,.map H.next ⟨w.heap.size,0,0,0⟩ (Env.hq _ _ _),d⟩;simp[Instr.makeMap]
theorem Ip(g:Rel ρ H w){l:Nat}{es es':List (af×af)}(aS:H.get l=A (.map es)){loc:Loc}(aw:ρ l=A loc){ents:Array MapEntry}{clock:Nat}
  (ah:bU ρ (es'.map (·.1)) (ents.toList.map (·.key))) (ai:bU ρ (es'.map (·.2)) (ents.toList.map (·.val))):
  Step ρ H w ρ (H.set l (.map es')) {w with heap:=w.heap.setIfInBounds loc.block (.map ents clock)}:=by
 have G:=ae.bq aS;obtain⟨c,d,S,R,B,_,_⟩:=g.map _ _ aS;obtain rfl:loc=c:=al;have U:=zi B;have j:∀k,k≠loc.block->({w with heap:=w.heap.setIfInBounds loc.block (.map ents clock)}:World).heap[k]? =w.heap[k]? :=al;have i:∀a c,H.live a->a≠l->ρ a=A c->c.block≠loc.block:=λa c h cu e heq=>
  g.apart l a loc c (.inr (.inl ⟨_,aS⟩)) h ad aw e heq.symm
 have r:∀a,(H.set l (.map es')).rw a->H.rw a:=by
  grind[ae.rw,ae.b8]
 have E:∀a,(H.set l (.map es')).live a->H.live a:=by
  grind[ae.live,ae.b8]
 have p:∀b,b<w.heap.size->¬eX ρ H b->({w with heap:=w.heap.setIfInBounds loc.block (.map ents clock)}:World).heap[b]? =w.heap[b]? :=by
  intro b _ K;refine j b ?_;rintro rfl;exact K ⟨l,loc,.inr (.inl ⟨_,aS⟩),aw,rfl⟩
 have q:∀b,eX ρ (H.set l (.map es')) b->eX ρ H b\/w.heap.size<=b:=by
  rintro b ⟨a,c,ah,ai,ax⟩;exact .inl ⟨a,c,r _ ah,ai,ax⟩
 refine⟨ρ.le_refl,du _,λ_ _=>rfl,⟨?_,?_,?_,?_,?_⟩,rfl,rfl,rfl,aX,p,q,ae.F9 rfl,.same (ae.zV rfl)⟩
 ·intro a V o n h;by_cases f:l=a
  ·grind[ae.cH]
  ·rw[ae.b8 f]at h;obtain⟨c,d,O,t,s,z,P,m,Q⟩:=g.row _ _ _ _ h;exact⟨c,d,O,t,s,z,al,m,Q⟩
 ·intro a T h;by_cases f:l=a
  ·subst f;rw[ae.cH G]at h;simp only[bD,bz.map.injEq]at h;subst h;refine⟨loc,aw,ents,clock,?_,ah,ai⟩;grind
  ·rw[ae.b8 f]at h;obtain⟨c,d,y,u,P,m⟩:=g.map _ _ h;exact⟨c,d,y,u,by rw[j _ (i a c (.inr (.inl ⟨_,h⟩)) ad d)];omega,m⟩
 ·intro a s o n h;by_cases f:l=a
  ·grind[ae.cH]
  ·rw[ae.b8 f]at h;obtain⟨c,d,ar⟩:=g.dZ _ _ _ _ h;exact⟨c,d,ar.frame ρ.le_refl (j _ (i a c (.inr (.inr ⟨_,_,_,h⟩)) ad d))⟩
 ·intro L l2 M N ah ai i v x;exact g.apart L l2 M N (r _ ah) (E _ ai) i v x
 ·intro a W o n h;by_cases f:l=a
  ·grind[ae.cH]
  ·rw[ae.b8 f]at h;exact(g.old _ _ _ _ h).step ρ.le_refl aX p q
def jI(P:Program)(H:ae)(t:TypeId)(m k v:af):Option ae:=
 match P.underlying t,m with
 |some (.map a _),.map l=>
  (match P.underlying a,H.get l with
  |some d,A (.map es)=>
   if plainKey d=J then
    (match nV d k es 0 with
    |some (A (i,_))=>A (H.set l (.map (es.set i (k,v))))
    |some Z=>A (H.set l (.map (es++[(k,v)])))
    |none=>Z)
   else if pA P d k=J then
    (match nb P a k es 0 with
    |some Z=>A (H.set l (.map (es++[(k,v)])))
    |_=>Z)
   else Z
  |_,_=>Z)
 |_,_=>Z
theorem agh{d:TypeDesc}{a b:af}{b1 b':Value}(h:pd d a b=A J)(c:bA ρ a b1)(e:bA ρ b b')(n:Nat):Instr.sameBits (n+1) b' b1=true:=by
 unfold pd at h;split at h
 ·cases c;cases e;grind[Instr.sameBits]
 ·cases c;cases e;grind[Instr.sameBits,IA]
 ·cases c;cases e;grind[Instr.sameBits]
 grind
def abk(es:List (af×af))(i:Nat)(k v:af):(es.set i (k,v)).map (·.1)=(es.map (·.1)).set i k:=by simp[List.map_set]
def abl(es:List (af×af))(i:Nat)(k v:af):(es.set i (k,v)).map (·.2)=(es.map (·.2)).set i v:=by simp[List.map_set]
theorem Ju(g:Rel ρ H w){t:TypeId}{m k v:af}{gz a b:Value}{H':ae}(h:jI P H t m k v=A H')(hm:bA ρ m gz)(c:bA ρ k a)(q:bA ρ v b):
  ∃x,(Instr.mapUpdate t gz a b).run P w= .ok () x/\Step ρ H w ρ H' x:=by
 unfold jI at h;split at h
 ·rename_i T L l hu;cases hm with|map _ loc aw=>
  split at h
  ·rename_i d es j aS;split at h
   ·rename_i p;obtain⟨ents,clock,z,n,ah,ai⟩:=uG (P:=P) g aS aw;have K:∀o:Obj,(setObj loc.block o).run P w= .ok () {w with heap:=w.heap.setIfInBounds loc.block o}:=(by grind[setObj,Sem.run]);have Q:∀df,Instr.findNow d a ents.toList 0=A df->(Instr.mapUpdate t (.map (A loc.block)) a b).run P w=
      (match df with
       |some (i,_)=>(do
        let key<-Instr.keyThatStays (((ents[i]?).map (·.key)).getD a) a
        setObj loc.block (.map (ents.modify i λe=>{e with key,val:=b}) clock):Sem Unit).run P w
       |none=>(setObj loc.block (.map (ents.push {key:=a,val:=b,born:=clock}) (clock+1))).run P w):=by
     intro df E;unfold Instr.mapUpdate;simp only[Sem.run_bind,run_underlying hu,Result.andThen_ok,n];rw[yZ j p];simp only[Result.andThen_ok,Instr.findKey,Sem.run_bind,run_underlying j,E,Sem.run_pure];grind[Sem.run_bind]
    split at h
    ·rename_i i v0 aC;simp only[bD]at h;subst h;obtain⟨df,r,f,s⟩:=uo c es ents.toList 0 _ aC ah ai;cases f with|some _ _ y S=>
     obtain⟨_,aP,e,he,G⟩:=s i v0 rfl;simp only[Nat.sub_zero,Nat.zero_add]at he aP;have hlen:=ah.length;simp only[List.length_map,Array.length_toList]at hlen;have M:i<ents.size:=ad;obtain⟨u,N,B⟩:=ah.get i e.1 al;have O:ents[i].key=u:=al;have R:(Instr.keyThatStays (((ents[i]?).map (·.key)).getD a) a).run P w= .ok a w:=by
      unfold Instr.keyThatStays;have:((ents[i]?).map (·.key)).getD a=u:=al;rw[this,if_pos (agh G c B 9999)];rfl
     refine⟨_,?_,Ip g aS aw (es':=es.set i (k,v)) (ents:=ents.modify i λe=>{e with key:=a,val:=b}) (clock:=clock) ?_ ?_⟩
     ·grind[Sem.run_bind,Result.andThen_ok]
     ·rw[abk];have:(ents.modify i λe=>{e with key:=a,val:=b}).toList.map (·.key)=(ents.toList.map (·.key)).set i a:=by
       apply List.ext_getElem?;grind
      rw[this];exact ah.set c i
     ·rw[abl];have:(ents.modify i λe=>{e with key:=a,val:=b}).toList.map (·.val)=(ents.toList.map (·.val)).set i b:=by
       apply List.ext_getElem?;grind
      rw[this];exact ai.set q i
    ·rename_i aC;simp only[bD]at h;subst h;obtain⟨df,r,f,s⟩:=uo c es ents.toList 0 _ aC ah ai;cases f;refine⟨_,?_,Ip g aS aw (es':=es++[(k,v)]) (ents:=ents.push {key:=a,val:=b,born:=clock}) (clock:=clock+1) ?_ ?_⟩
     ·grind
     ·simpa using ah.append (.cons _ _ _ _ c .nil)
     ·simpa using ai.append (.cons _ _ _ _ q .nil)
    grind
   ·split at h
    ·rename_i p;obtain⟨ents,clock,z,n,ah,ai⟩:=uG (P:=P) g aS aw;have K:∀o:Obj,(setObj loc.block o).run P w= .ok () {w with heap:=w.heap.setIfInBounds loc.block o}:=(by grind[setObj,Sem.run]);split at h
     ·rename_i aC;simp only[bD]at h;subst h;obtain⟨df,r,f⟩:=Eu j p c w aC ah ai;cases f;refine⟨_,?_,Ip g aS aw (es':=es++[(k,v)]) (ents:=ents.push {key:=a,val:=b,born:=clock}) (clock:=clock+1) ?_ ?_⟩
      ·unfold Instr.mapUpdate;simp only[Sem.run_bind,run_underlying hu,Result.andThen_ok,n];grind[Ed,Result.andThen_ok]
      ·simpa using ah.append (.cons _ _ _ _ c .nil)
      ·simpa using ai.append (.cons _ _ _ _ q .nil)
     grind
    grind
  grind
 grind
end
structure bf where
 t:bK af
 size:Nat
def bf.get(R:bf)(d:Nat):af:=match R.t.get d with
 |some v=>v
 |none=> .tuple []
def bf.put(R:bf)(dst:Option Nat)(v:af):Option bf:=match dst with
 |none=>A R
 |some d=>if d<R.size then A {R with t:=bK.put v (d+1) R.t d}else Z
structure eT(ρ:Env)(R:bf)(a:Act):Prop where
 size:R.size=a.tmps.size
 get:∀d,bA ρ (R.get d) (a.tmps.getD d undef)
 none:a.defers=[]
def eT.mono{ρ b:Env}{R:bf}{a:Act}(h:eT ρ R a)(hle:ρ.le b):eT b R a:=⟨h.size,λd=>(h.get d).mono hle,h.none⟩
theorem bf.sE{R bl:bf}{dst:Option Nat}{v:af}(h:R.put dst v=A bl)(d:Nat):bl.get d=if dst=A d then v else R.get d:=by
 cases dst with
 |none=>grind[bf.put]
 |some e=>
  grind[bf.put,bf.get,bK.uH,bK.sF]
theorem bf.size_put{R bl:bf}{dst:Option Nat}{v:af}(h:R.put dst v=A bl):bl.size=R.size:=by
 cases dst with
 |none=>grind[bf.put]
 |some e=>
  grind[bf.put]
def bf.Pk{R bl:bf}{d:Nat}{v:af}(h:R.put (A d) v=A bl):d<R.size:=by
 grind[bf.put]
theorem eT.put{ρ:Env}{R bl:bf}{a:Act}{dst:Option Nat}{v:af}{x:Value}(h:eT ρ R a)(b:R.put dst v=A bl)(f:bA ρ v x):eT ρ bl (a.put dst x):=by
 refine⟨?_,λd=> ?_,?_⟩
 ·rw[bf.size_put b,h.size];cases dst<;>simp[Act.put]
 ·rw[bf.sE b];cases dst with
  |none=>simpa [Act.put]using h.get d
  |some e=>
   have c:=bf.Pk b;rw[h.size]at c;by_cases he:e=d
   ·subst he;simpa [Act.put,c]using f
   ·have:=h.get d;simp only[bD,he,if_false,Act.put,Array.getD_eq_getD_getElem?,Array.getElem?_setIfInBounds];simpa using this
 ·cases dst<;>simpa [Act.put]using h.none
def cp(R:bf):Operand->Option af
 | .tmp t=>A (R.get t)
 | .const v=>u4 v
 | .global _=>Z
 | .func f=>A (.func (.func f) [] [])
section
variable {P:Program}{ρ:Env}{H:ae}{w:World}{R:bf}{a:Act}
def eu(ar:eT ρ R a){x:Operand}{v:af}(h:cp R x=A v):bA ρ v (a.eval x):=by
 cases x with
 |tmp t=>simp only[cp,bD]at h;subst h;exact ar.get t
 |const c=>exact zT h ρ
 |global g=>cases h
 |func f=>simp only[cp,bD]at h;subst h;exact .func (.func f) [] [] [] [] .nil .nil
def iU(R:bf):List Operand->Option (List af)
 |[]=>A []
 |x::xs=>match cp R x,iU R xs with
  |some v,A ak=>A (v::ak)
  |_,_=>Z
theorem qp(ar:eT ρ R a):∀{xs:List Operand} {ak:List af},iU R xs=A ak->bU ρ ak (xs.map a.eval)
 |[],ak,h=>by simp only[iU,bD]at h;subst h;exact .nil
 |x::xs,ak,h=>by
  simp only[iU]at h;split at h
  ·rename_i v d b c;simp only[bD]at h;subst h;exact .cons _ _ _ _ (eu ar b) (qp ar c)
  grind
def kW(R:bf):List (Nat×Operand)->Option (List (Nat×af))
 |[]=>A []
 |(i,x)::xs=>match cp R x,kW R xs with
  |some v,A ak=>A ((i,v)::ak)
  |_,_=>Z
theorem DV(ar:eT ρ R a):∀{xs:List (Nat×Operand)} {ak:List (Nat×af)},kW R xs=A ak->rY ρ ak (xs.map λ(i,x)=>(i,a.eval x))
 |[],ak,h=>by simp only[kW,bD]at h;subst h;exact trivial
 |(i,x)::xs,ak,h=>by
  simp only[kW]at h;split at h
  ·rename_i v d b c;simp only[bD]at h;subst h;exact⟨rfl,eu ar b,DV ar c⟩
  grind
def mc(R:bf):Option Operand->Option (Option af)
 |none=>A Z
 |some x=>match cp R x with
  |some v=>A (A v)
  |none=>Z
theorem D2(ar:eT ρ R a){x:Option Operand}{v:Option af}(h:mc R x=A v):rX ρ v (x.map a.eval):=by
 cases x with
 |none=>simp only[mc,bD]at h;subst h;exact .none
 |some x=>
  simp only[mc]at h;split at h
  ·rename_i u hu;simp only[bD]at h;subst h;exact .some _ _ (eu ar hu)
  grind
def eB:af->Option af
 | .ptr l i c=>A (.ptr l i c)
 | .iface t v=>A (.iface t v)
 | .func (.func f) x y=>A (.func (.func f) x y)
 |_=>Z
def nW(P:Program)(t:TypeId)(v:af):Option af:=
 match P.underlying t with
 |some (.interface _)=>Z
 |some _=>A (.iface t v)
 |none=>Z
def bE(P:Program)(H:ae)(b:Builtin)(ts:List TypeId)(ak:List af):Option af:=
 match b,ts,ak with
 | .len,[t],[x]=>uq P H t x
 | .max,_,[x,y]=>DQ x y
 | .min,_,[x,y]=>DR x y
 | .cap,[t],[x]=>DH P t x
 |_,_,_=>Z
def r8(P:Program)(t:TypeId)(ok:Bool)(v:af):Option af:=
 match v with
 | .iface d u=>if d=t/\ok=I then(match P.underlying t with|some (.interface _)=>Z|some _=>A u|none=>Z)else Z
 |_=>Z
def jJ(P:Program)(o:Op)(R:bf):Option af:=
 match o with
 | .move x=>cp R x
 | .assign x=>cp R x
 | .pick c a b=>match cp R c with
  |some (.bool t)=>if t then cp R a else cp R b
  |_=>Z
 | .build t dk=>(kW R dk.toList).bind (ei P t)
 | .nilCheck x=>(cp R x).bind eB
 | .binOp op t x y _=>(cp R x).bind λu=>(cp R y).bind λv=>ug P op t x y u v
 | .unOp op _ x=>(cp R x).bind (jL op)
 | .convert s d x=>(cp R x).bind (r_ P s d)
 | .makeInterface t x=>(cp R x).bind (nW P t)
 | .makeFunc fn f c=>(iU R f.toList).bind λfs=>(iU R c.toList).bind λcs=>A (.func fn fs cs)
 | .slice t x gl aP e=>(cp R x).bind λv=>(mc R gl).bind λl=>(mc R aP).bind λh=>(mc R e).bind λm=>gu P t v l h m
 | .fieldAddr t x f=>(cp R x).bind λv=>bO P t v f
 | .field t x f=>(cp R x).bind λv=>oT P t v f
 | .indexAddr t x i=>(cp R x).bind λu=>(cp R i).bind λv=>ct P t u v
 | .index t x i=>(cp R x).bind λu=>(cp R i).bind λv=>qm P t u v
 | .extract x i=>(cp R x).bind λv=>iS v i
 | .typeAssert x _ t ok=>(cp R x).bind (r8 P t ok)
 | .call c=>match c.callee with
  | .builtin b=>(iU R c.args.toList).bind (bE P .empty b c.argTypes.toList)
  |_=>Z
 |_=>Z
theorem g0{s:Sem Value}{x:Value}{w a:World}(h:s.run P w= .ok x a):(do pure (.value (<-s)):Sem Next).run P w= .ok (.value x) a:=by
 simp[h]
theorem Gd{s:Sem Unit}{w a:World}(h:s.run P w= .ok () a):(do s;pure .skip:Sem Next).run P w= .ok .skip a:=by
 simp[h]
theorem Rel.empty(ρ:Env)(w:World)(n:Nat):Rel ρ ⟨.leaf,n⟩ w:=by
 have:∀l,(⟨.leaf,n⟩:ae).get l=none:=(by grind[ae.get,bK.sD]);refine⟨λl _ _ _ h=> ?_,λl _ h=> ?_,λl _ _ _ h=> ?_,λl a _ _ h=> ?_,λl _ _ _ h=> ?_⟩
 ·grind
 ·grind
 ·grind
 ·rcases h with⟨_,_,h⟩|⟨_,h⟩|⟨_,_,_,h⟩<;>(rw[this]at h;cases h)
 grind
theorem Jk(e:Rel ρ H w){b:Builtin}{ts:List TypeId}{ak:List af}{v:af}{xs:List Value}(h:bE P H b ts ak=A v)(d:bU ρ ak xs)(ty:TypeId)(cs:Array Bool):
  ∃x,(builtin b ts.toArray ty cs xs.toArray).run P w= .ok (.value x) w/\bA ρ v x:=by
 unfold bE at h;split at h
 ·cases d with|cons _ x _ _ ah ai=>
  cases ai;obtain⟨r,a,c⟩:=TL e ty h ah;exact⟨r,g0 a,c⟩
 ·cases d with|cons _ x _ _ ah ai=>
  cases ai with|cons _ y _ _ ax aM=>
  cases aM;obtain⟨r,a,c⟩:=TT (P:=P) ts.toArray ty h ah ax w;exact⟨r,g0 a,c⟩
 ·cases d with|cons _ x _ _ ah ai=>
  cases ai with|cons _ y _ _ ax aM=>
  cases aM;obtain⟨r,a,c⟩:=TW (P:=P) ts.toArray ty h ah ax w;exact⟨r,g0 a,c⟩
 ·cases d with|cons _ x _ _ ah ai=>
  cases ai;obtain⟨r,a,c⟩:=Tu (P:=P) ty h ah w;exact⟨r,g0 a,c⟩
 grind
theorem map_toArray{α β:Type}(f:α->β)(xs:Array α):xs.map f=(xs.toList.map f).toArray:=al
def Ak{o:Oper}{c:Call}{b:Builtin}(aZ:o.op= .call c)(aA:c.callee= .builtin b)(w:World):
  (execOp a.eval o).run P w=(builtin b c.argTypes o.type (c.args.map λ | .const _=>J|_=>I) (c.args.map a.eval)).run P w:=by
 unfold execOp;rw[aZ];simp only[resolve,aA];rfl
theorem Ug{o:Oper}{v:af}(h:jJ P o.op R=A v)(ar:eT ρ R a)(w:World):∃x,(execOp a.eval o).run P w= .ok (.value x) w/\bA ρ v x:=by
 unfold jJ at h;split at h
 ·rename_i x aZ;exact⟨_,by unfold execOp;rw[aZ];rfl,eu ar h⟩
 ·rename_i x aZ;exact⟨_,by unfold execOp;rw[aZ];rfl,eu ar h⟩
 ·rename_i c x y aZ;split at h
  ·rename_i t ba;have ah:=eu ar ba;have ai:a.eval c= .bool t:=by
    generalize a.eval c=z at ah;cases ah;rfl
   cases t
   ·exact⟨_,by unfold execOp;rw[aZ];simp only[ai];rfl,eu ar h⟩
   ·exact⟨_,by unfold execOp;rw[aZ];simp only[ai];rfl,eu ar h⟩
  grind
 ·rename_i t dk aZ;simp only[eV]at h;obtain⟨ak,ah,ai⟩:=h;obtain⟨x,g,e⟩:=Tr ai (DV ar ah) w;grind[execOp,map_toArray,g0]
 ·rename_i x aZ;simp only[eV]at h;obtain⟨u,ah,ai⟩:=h;have ax:=eu ar ah;refine⟨a.eval x,?_,?_⟩
  ·unfold execOp;rw[aZ];simp only
   generalize a.eval x=z at ax;unfold eB at ai;split at ai
   ·cases ax;rfl
   ·cases ax;rfl
   ·cases ax;rfl
   grind
  ·unfold eB at ai;grind
 ·rename_i op t x y H aZ;simp only[eV]at h;obtain⟨u,ah,z,ai,ax⟩:=h;obtain⟨r,g,e⟩:=To ax (eu ar ah) (eu ar ai) w;grind[execOp,g0]
 ·rename_i op t x aZ;simp only[eV]at h;obtain⟨u,ah,ax⟩:=h;obtain⟨r,g,e⟩:=Us ax (eu ar ah) w;exact⟨r,by unfold execOp;rw[aZ];exact g0 g,e⟩
 ·rename_i s d x aZ;simp only[eV]at h;obtain⟨u,ah,ax⟩:=h;obtain⟨r,g,e⟩:=Tw ax (eu ar ah) w;grind[execOp,g0]
 ·rename_i t x aZ;simp only[eV]at h;obtain⟨u,ah,ax⟩:=h;have aM:=eu ar ah;unfold nW at ax;split at ax
  ·grind
  ·rename_i d n hu;simp only[bD]at ax;subst ax;refine⟨.iface t (a.eval x),?_,.iface _ _ _ aM⟩;unfold execOp;rw[aZ];refine g0 ?_;unfold Instr.makeInterface;simp only[Sem.run_bind,run_underlying hu,Result.andThen_ok];cases d<;>first|rfl|exact absurd rfl (n _)
  grind
 ·rename_i fn f c aZ;simp only[eV,bD]at h;obtain⟨fs,ah,cs,ai,rfl⟩:=h;refine⟨_,?_,.func fn fs cs _ _ (qp ar ah) (qp ar ai)⟩;unfold execOp;rw[aZ];rw[<-map_toArray,<-map_toArray];rfl
 ·rename_i t x gl aP B aZ;simp only[eV]at h;obtain⟨u,ah,l,ai,k,ax,m,aM,j⟩:=h;obtain⟨r,g,e⟩:=Up j (eu ar ah) (D2 ar ai) (D2 ar ax) (D2 ar aM) w;grind[execOp,g0]
 ·rename_i t x f aZ;simp only[eV]at h;obtain⟨u,ah,ax⟩:=h;obtain⟨r,g,e⟩:=TG ax (eu ar ah) w;grind[execOp,g0]
 ·rename_i t x f aZ;simp only[eV]at h;obtain⟨u,ah,ax⟩:=h;obtain⟨r,g,e⟩:=TH ax (eu ar ah) w;grind[execOp,g0]
 ·rename_i t x i aZ;simp only[eV]at h;obtain⟨u,ah,z,ai,ax⟩:=h;obtain⟨r,g,e⟩:=TJ ax (eu ar ah) (eu ar ai) w;grind[execOp,g0]
 ·rename_i t x i aZ;simp only[eV]at h;obtain⟨u,ah,z,ai,ax⟩:=h;obtain⟨r,g,e⟩:=TK ax (eu ar ah) (eu ar ai) w;grind[execOp,g0]
 ·rename_i x i aZ;simp only[eV]at h;obtain⟨u,ah,ax⟩:=h;obtain⟨r,g,e⟩:=TF ax (eu ar ah) w;exact⟨r,by unfold execOp;rw[aZ];exact g0 g,e⟩
 ·rename_i x G t ok aZ;simp only[eV]at h;obtain⟨u,ah,ax⟩:=h;have aM:=eu ar ah;unfold r8 at ax;split at ax
  ·rename_i d E;split at ax
   ·rename_i aA;obtain⟨rfl,rfl⟩:=aA;generalize he:a.eval x=z at aM;cases aM with|iface _ _ q j=>
    split at ax
    ·grind
    ·rename_i p n hu;simp only[bD]at ax;subst ax;refine⟨q,?_,j⟩;unfold execOp;rw[aZ];refine g0 ?_;rw[he];unfold Instr.typeAssert;simp only[Sem.run_bind,run_underlying hu,Result.andThen_ok];cases p<;>first|exact absurd rfl (n _)|simp
    grind
   grind
  grind
 ·rename_i c aZ;split at h
  ·rename_i b aA;simp only[eV]at h;obtain⟨ak,ah,ai⟩:=h;obtain⟨x,g,e⟩:=Jk (Rel.empty ρ w 0) ai (qp ar ah) o.type (c.args.map λ | .const _=>J|_=>I);refine⟨x,?_,e⟩;rw[Ak aZ aA,map_toArray a.eval];omega
  grind
 grind
def iw(P:Program)(o:Op)(R:bf)(H:ae):Option af:=
 match o with
 | .load t x=>(cp R x).bind (aI P H t)
 | .lookup t x k ok=>(cp R x).bind λu=>(cp R k).bind λv=>l9 P H t u v ok
 | .convert s d x=>(cp R x).bind (ui P H s d)
 | .call c=>match c.callee with
  | .builtin b=>(iU R c.args.toList).bind (bE P H b c.argTypes.toList)
  |_=>Z
 |_=>Z
theorem Uk(f:Rel ρ H w){o:Oper}{v:af}(h:iw P o.op R H=A v)(ar:eT ρ R a):∃x,(execOp a.eval o).run P w= .ok (.value x) w/\bA ρ v x:=by
 unfold iw at h;split at h
 ·rename_i t x aZ;simp only[eV]at h;obtain⟨u,ah,ax⟩:=h;obtain⟨r,g,e⟩:=DO f ax (eu ar ah);grind[execOp,g0]
 ·rename_i t x k ok aZ;simp only[eV]at h;obtain⟨u,ah,z,ai,ax⟩:=h;obtain⟨r,g,e⟩:=TP f ax (eu ar ah) (eu ar ai);grind[execOp,g0]
 ·rename_i s d x aZ;simp only[eV]at h;obtain⟨u,ah,ax⟩:=h;obtain⟨r,g,e⟩:=Ts f ax (eu ar ah);grind[execOp,g0]
 ·rename_i c aZ;split at h
  ·rename_i b aA;simp only[eV]at h;obtain⟨ak,ah,ai⟩:=h;obtain⟨x,g,e⟩:=Jk f ai (qp ar ah) o.type (c.args.map λ | .const _=>J|_=>I);refine⟨x,?_,e⟩;rw[Ak aZ aA,map_toArray a.eval];omega
  grind
 grind
def qn(P:Program)(o:Op)(R:bf)(H:ae):Option (af×ae):=
 match o with
 | .alloc t=>yC P H t
 | .box t x=>(cp R x).bind (r9 (k9 P t) H)
 | .buildSlice t n dk=>(kW R dk.toList).bind (uh P H t n)
 | .makeMap _ Z=>A (DP H)
 | .makeSlice t l c=>(cp R l).bind λu=>(cp R c).bind λv=>hL P H t u v
 |_=>Z
theorem TZ(e:Rel ρ H w)(aC:ρ H.next=Z){o:Oper}{v:af}{H':ae}(h:qn P o.op R H=A (v,H'))(ar:eT ρ R a):
  ∃x b d,(execOp a.eval o).run P w= .ok (.value x) b/\bA d v x/\Step ρ H w d H' b:=by
 unfold qn at h;split at h
 ·grind[Tm,execOp,g0]
 ·rename_i t x aZ;simp only[eV]at h;obtain⟨u,ah,ax⟩:=h;obtain⟨r,b,d,f,g,i⟩:=Jj (P:=P) e aC ax (eu ar ah) t (λj h=>Ow h);grind[execOp,g0]
 ·rename_i t n dk aZ;simp only[eV]at h;obtain⟨u,ah,ax⟩:=h;obtain⟨r,b,d,f,g,i⟩:=Tp e aC ax (DV ar ah);grind[execOp,map_toArray,g0]
 ·rename_i t aZ;simp only[bD]at h;obtain⟨r,b,d,f,g,i⟩:=TQ (P:=P) e aC t;grind[execOp,g0]
 ·rename_i t l c aZ;simp only[eV]at h;obtain⟨u,ah,z,ai,ax⟩:=h;obtain⟨r,b,d,f,g,i⟩:=TS e aC ax (eu ar ah) (eu ar ai);grind[execOp,g0]
 grind
def bz.iA:bz->Bool
 | .row I _ _=>J
 | .map _=>J
 | .dZ _ _ _=>J
 |_=>I
def bz.iA.ro{b:bz}(h:b.iA=J):b.uM=false:=by
 cases b with
 |row ro e s=>cases ro<;>first|rfl|cases h
 |map es=>rfl
 |dZ t e s=>rfl
 |dead=>rfl
 |old=>rfl
def bz.iA.old{b:bz}(h:b.iA=J):b.qN=false:=by cases b<;>first|rfl|cases h
def gS(r:Option (af×ae))(l:Nat):Option (af×bz):=
 match r with
 |some (v,H')=>if H'.next=l+1 then(match H'.get l with
  |some b=>if b.iA then A (v,b)else Z
  |none=>Z)else Z
 |none=>Z
theorem abV{r:Option (af×ae)}{l:Nat}{v:af}{b:bz}(h:gS r l=A (v,b)):b.iA=true:=by
 unfold gS at h;grind
def ly(P:Program)(o:Op)(R:bf)(l:Nat):Option (af×bz):=gS (qn P o R ⟨.leaf,l⟩) l
def me(P:Program)(o:Op)(R:bf)(H:ae):Option (af×ae):=
 match o with
 | .store t x y=>(cp R x).bind λu=>(cp R y).bind λv=>(cr P H t u v).map λH'=>(.tuple [],H')
 | .mapUpdate t m k x=>(cp R m).bind λu=>(cp R k).bind λv=>(cp R x).bind λz=>(jI P H t u v z).map λH'=>(.tuple [],H')
 | .insert t m k x=>(cp R m).bind λu=>(cp R k).bind λv=>(cp R x).bind λz=>(jI P H t u v z).map λH'=>(.tuple [],H')
 | .call c=>match c.callee,c.args.toList with
  | .builtin .append,[s,x]=>(cp R s).bind λu=>(cp R x).bind λv=>eA P H c.argTypes.toList u v
  | .builtin .clear,[x]=>(cp R x).bind λu=>(yD P H c.argTypes.toList u).map λH'=>(.tuple [],H')
  |_,_=>Z
 |_=>Z
def I4(x:Value):Next->Prop
 | .value y=>y=x
 | .skip=>x=undef
 |_=>False
theorem Ux(f:Rel ρ H w){o:Oper}{v:af}{H':ae}(h:me P o.op R H=A (v,H'))(aC:H.next<H'.next->ρ H.next=Z)(ar:eT ρ R a):
  ∃n x b g,(execOp a.eval o).run P w= .ok n b/\I4 x n/\bA g v x/\Step ρ H w g H' b:=by
 unfold me at h;split at h
 ·rename_i t x y aZ;simp only[eV,Option.map_eq_some_iff,eF]at h;obtain⟨u,ah,z,ai,H1,ax,rfl,rfl⟩:=h;obtain⟨b,e,d⟩:=Uq f ax (eu ar ah) (eu ar ai);exact⟨.skip,undef,b,ρ,by grind[execOp,Gd],rfl,.tuple [] [] .nil,d⟩
 ·rename_i t m k x aZ;simp only[eV,Option.map_eq_some_iff,eF]at h;obtain⟨u,ah,z,ai,y,aM,H1,ax,rfl,rfl⟩:=h;obtain⟨b,e,d⟩:=Ju f ax (eu ar ah) (eu ar ai) (eu ar aM);exact⟨.skip,undef,b,ρ,by grind[execOp,Gd],rfl,.tuple [] [] .nil,d⟩
 ·rename_i t m k x aZ;simp only[eV,Option.map_eq_some_iff,eF]at h;obtain⟨u,ah,z,ai,y,aM,H1,ax,rfl,rfl⟩:=h;obtain⟨b,e,d⟩:=Ju f ax (eu ar ah) (eu ar ai) (eu ar aM);exact⟨.skip,undef,b,ρ,by grind[execOp,Gd],rfl,.tuple [] [] .nil,d⟩
 ·rename_i c aZ;split at h
  ·rename_i s x aA i;simp only[eV]at h;obtain⟨u,ah,z,ai,ax⟩:=h;obtain⟨r,b,g,e,d,j⟩:=Tn f o.type ax aC (eu ar ah) (eu ar ai);refine⟨.value r,r,b,g,?_,rfl,d,j⟩;rw[Ak aZ aA,map_toArray a.eval,i];refine g0 (s:=Builtin.append_ c.argTypes o.type _) ?_;simpa using e
  ·rename_i x aA i;simp only[eV,Option.map_eq_some_iff,eF]at h;obtain⟨u,ah,H1,ax,rfl,rfl⟩:=h;obtain⟨b,e,d⟩:=Tv f o.type ax (eu ar ah);refine⟨.value (.tuple #[]),.tuple #[],b,ρ,?_,rfl,.tuple [] [] .nil,d⟩;rw[Ak aZ aA,map_toArray a.eval,i];refine g0 (s:=Builtin.clear_ c.argTypes o.type _) ?_;simpa using e
  grind
 grind
