/-
  Texts of one proof, laid together: Hv8 Hv9 Hv10 Hv11.
-/
import Derived.Test.YtmhhnnklfcbgfaaGreatMA
import Derived.Deep.AppendSrc
import Derived.Orders
set_option linter.unusedVariables false
set_option linter.unusedSimpArgs false
set_option linter.defProp false
open Option renaming some→A,none→Z
open Bool renaming true→J,false→I
namespace Go.cv
section
variable {P:Program}{ρ:Env}{H:ae}{w:World}
theorem Lo(c:Array Value):∀(d:List af) (o:Nat),(∀(j:Nat) (v:af),d[j]? =A v->v.one=J/\∃x,c[o+j]? =A x/\bC ρ v x)->
  ∃xs:List Value,bZ ρ d xs/\(∀j u,xs[j]? =A u->c[o+j]? =A u)/\∀u∈xs,u.oneCell'=J
 |[],_,_=>⟨[],.nil,λj u h=>al,λu h=>by cases h⟩
 |v::d,o,h=>by
  obtain⟨ah,x,aF,a⟩:=h 0 v rfl;obtain⟨xs,b,e,f⟩:=Lo c d (o+1) (λj u g=>by have:=h (j+1) u al;grind);refine⟨x::xs,.cons _ _ _ _ a b,?_,?_⟩
  ·grind
  ·intro u hu;rcases List.mem_cons.1 hu with rfl|hu
   ·exact a.GC ah
   grind
theorem Ri(c:Array Value)(esz:Nat):∀(els:List (List af)) (o:Nat),(∀(i:Nat) (e:List af),els[i]? =A e->e.length=esz/\∀(j:Nat) (v:af),e[j]? =A v->v.one=J/\∃x,c[o+i*esz+j]? =A x/\bC ρ v x)->
  ∃xs:List Value,bZ ρ els.flatten xs/\(∀j u,xs[j]? =A u->c[o+j]? =A u)/\∀u∈xs,u.oneCell'=J
 |[],_,_=>⟨[],by simpa using bZ.nil,λj u h=>al,λu h=>by cases h⟩
 |d::els,o,h=>by
  obtain⟨n,aA⟩:=h 0 d rfl;obtain⟨g,a,k,a3⟩:=Lo c d o (λj v f=>by simpa using aA j v f);obtain⟨xs,b,l,m⟩:=Ri c esz els (o+esz) (λi e he=>by
   have:=h (i+1) e al;grind)
  have ar:=a.length;refine⟨g++xs,by simpa using a.append b,?_,?_⟩
  ·grind
  grind
def hH(H:ae)(l i n esz:Nat):Option (List (List af)):=
 match H.get l with
 |some (.row _ a els)=>if a=esz/\i+n<=els.length then A ((els.drop i).take n)else Z
 |some (.ee _ a els)=>if a=esz/\i+n<=els.length then A ((els.drop i).take n)else Z
 |_=>Z
theorem adS{els:List (List af)}{i n k:Nat}{e:List af}(h:((els.drop i).take n)[k]? =A e):els[i+k]? =A e:=by
 grind
theorem Kl{ro:Bool}{i n:Nat}{loc:Loc}{d:Nat}{els a:List (List af)}(k:gW ρ w loc ro d els)(h:(if d=loc.esz/\i+n<=els.length then A ((els.drop i).take n)else Z)=A a):
  a.length=n/\(∀e∈a,e.length=loc.esz)/\(∀e∈a,∀v∈e,v.one=J)/\
  ∃xs:List Value,bZ ρ a.flatten xs/\xs.length=n*loc.esz/\(∀j u,xs[j]? =A u->w.cell? ⟨loc.block,loc.off+i*loc.esz+j,Z⟩=A u)/\∀u∈xs,u.oneCell'=true:=by
 ·split at h
  ·rename_i g;obtain⟨rfl,hle⟩:=g;simp only[bE]at h;subst h;obtain⟨_,c,t,m,o,_,au⟩:=k;have hlen:((els.drop i).take n).length=n:=al;have ah:∀e∈(els.drop i).take n,e.length=loc.esz:=(by grind[List.getElem?_of_mem]);have ai:∀e∈(els.drop i).take n,∀v∈e,v.one=true:=(by grind[List.getElem?_of_mem]);refine⟨hlen,ah,ai,?_⟩;obtain⟨xs,b,l,f⟩:=Ri (ρ:=ρ) c loc.esz ((els.drop i).take n) (loc.off+i*loc.esz) al;refine⟨xs,b,by rw[<-b.length,pL ah,hlen],λj u p=> ?_,f⟩;grind[World.cell?]
  grind
theorem Ey(b:Rel ρ H w){l i n:Nat}{loc:Loc}{a:List (List af)}(h:hH H l i n loc.esz=A a)(ar:ρ l=A loc):
  a.length=n/\(∀e∈a,e.length=loc.esz)/\(∀e∈a,∀v∈e,v.one=J)/\
  ∃xs:List Value,bZ ρ a.flatten xs/\xs.length=n*loc.esz/\(∀j u,xs[j]? =A u->w.cell? ⟨loc.block,loc.off+i*loc.esz+j,Z⟩=A u)/\∀u∈xs,u.oneCell'=true:=by
 unfold hH at h;split at h
 ·rename_i ro c els aR;obtain⟨g,d,f⟩:=b.row _ _ _ _ aR;grind[Kl]
 ·rename_i t c els aR;obtain⟨g,d,f,_⟩:=b.ee _ _ _ _ aR;grind[Kl]
 grind
def ld(P:Program)(H:ae)(c:TypeId)(esz:Nat)(x:af):Option (List (List af)):=
 match P.underlying c,x with
 |some (.slice _),.az l i n a _=>if a=esz then(if n=0 then A []else hH H l i n esz)else Z
 |some (.slice _),.aq=>A []
 |some .string,.str s=>if esz=1 then A (s.map λb=>[.int .u8 b.toNat])else Z
 |_,_=>Z
def Wa(s:List UInt8):bZ ρ ((s.map λb=>[af.int .u8 b.toNat]).flatten) (byteCells ⟨s.toArray⟩):=by
 unfold byteCells;show bZ ρ _ (s.map _)
 induction s with
 |nil=>exact .nil
 |cons b s a=>exact .cons _ _ _ _ (.int _ _) a
theorem Vf(j:Rel ρ H w){f:TypeId}{esz:Nat}{x:af}{g:Value}{b:List (List af)}(h:ld P H f esz x=A b)(aF:bC ρ x g):
  (∀e∈b,e.length=esz)/\(∀e∈b,∀v∈e,v.one=J)/\∃news:List Value,bZ ρ b.flatten news/\Src P esz f g b.length news w:=by
 unfold ld at h;split at h
 ·rename_i e l i n m cap hu;split at h
  ·rename_i he;subst he;cases aF with|az _ _ _ _ loc a c ar aL aA r=>
   by_cases d:n=0
   ·subst d;simp only[if_true,bE]at h;subst h;exact⟨aW,aW,[],by simpa using bZ.nil,(by grind[Src.ofSlice])⟩
   rw[if_neg d]at h;obtain⟨ah,ai,ay,xs,aM,o,p,q⟩:=Ey j h ar;grind[Src.ofSlice,nB]
  grind
 ·rename_i e hu;cases aF;simp only[bE]at h;subst h;exact⟨aW,aW,[],by simpa using bZ.nil,Src.ofNil w hu 0⟩
 ·rename_i s hu;split at h
  ·rename_i he;subst he;cases aF;simp only[bE]at h;subst h;refine⟨aW,by simp[af.one],_,Wa s,?_⟩;have:=Src.ofString w hu (⟨s.toArray⟩:ByteArray);have k:(⟨s.toArray⟩:ByteArray).size=s.length:=by show s.toArray.size=_;simp
   rw[k]at this;simpa using this
  grind
 grind
def ml(P:Program)(t:TypeId):Option Nat:=(P.info? t).map (·.bytes)
def u2(x:af)(e:TypeId):Option TypeId:=match x with
 | .str _=>A e
 |_=>Z
theorem Vm{x:af}{e:TypeId}:∀a,u2 x e=A a->a=e:=by
 intro a h;unfold u2 at h;grind
def oJ(P:Program)(t:TypeId):Bool:=match P.underlying t with
 |some (.int .i64)=>J
 |_=>I
theorem aa2{P:Program}{t:TypeId}(h:oJ P t=J):P.underlying t=A (.int .i64):=by
 grind[oJ]
def zp(P:Program)(H:ae)(e:TypeId)(s x:af):Option (af×ae):=
 match s,x with
 | .aq,.int .i64 (.ofNat n)=>(match cM P e,ml P e,gb P e with
  |some esz,A iz,A z=>
   if 0<n/\z.cells.length=esz/\0<esz/\z.cells.all af.one=J/\n*iz<=140737488355328/\n<=1125899906842624 then A (.az H.next 0 n esz Z,H.push (.row I esz (List.replicate n z.cells)))else Z
  |_,_,_=>Z)
 |_,_=>Z
def gone(i s esz:Nat)(els:List (List af)):bA:=match i with
 |0=> .old s esz els
 |_+1=> .dead
def ej(P:Program)(H:ae)(ts:List TypeId)(s x:af):Option (af×ae):=
 match ts with
 |[t,b]=>
  (match P.underlying t with
  |some (.slice e)=>
   if oJ P b=J then zp P H e s x else
   (match cM P e,ml P e,gb P e with
   |some esz,A iz,A z=>
    (match ld P H b esz x with
    |some a=>
     if z.cells.length=esz/\0<esz then
      (match s with
      | .aq=>if a.length=0 then A (.aq,H)else
       if a.length*iz<=140737488355328/\a.length<=9223372036854775807 then A (.az H.next 0 a.length esz Z,H.push (eT (u2 x e) esz a))else Z
      | .az l i n c cap=>
       if c=esz then
        if a.length=0 then A (s,H)
        else if(n+a.length)*iz<=140737488355328/\n+a.length<=9223372036854775807 then
         (match hH H l i n esz with
         |some os=>
          if cap.any (· <n+a.length)=J then A (.az H.next 0 (n+a.length) esz Z,H.push (.row I esz (os++a)))
          else if cap=Z then
           (match H.get l with
           |some (.row I _ els)=>A (.az H.next 0 (n+a.length) esz Z,(H.set l (gone i H.next esz els)).push (.row I esz (os++a)))
           |some (.ee t0 _ _)=>if t0=e/\i=0 then A (.az H.next 0 (n+a.length) esz Z,(H.set l .dead).push (.ee t0 esz (os++a)))else Z
           |_=>Z)
          else Z
         |none=>Z)
        else Z
       else Z
      |_=>Z)
     else Z
    |none=>Z)
   |_,_,_=>Z)
  |_=>Z)
 |_=>Z
theorem Rx(w:World)(t d ty e:TypeId)(a_:P.underlying t=A (.slice e)){esz:Nat}(g:cM P e=A esz)(base:Option Addr)(n c:Nat)(aL:n<=c)(x:Value)(a:Src P esz d x 0 [] w):
  (Builtin.append_ #[t,d] ty #[.slice base n c,x]).run P w= .ok (.slice base n c) w:=by
 have f:=a.cells;rcases a.kind with⟨h,b⟩|b<;>cases base<;>
  simp[Builtin.append_,run_underlying a_,run_underlying b,run_sizeOf g,a.len,aL,f,storeCells]
theorem Fx(x:Rel ρ H w)(aB:ρ H.next=Z){ot:Option TypeId}{t j e:TypeId}(K:∀p,ot=A p->p=e)(ty:TypeId)(a_:P.underlying t=A (.slice e)){esz iz:Nat}{z:af}(g:cM P e=A esz)(f:ml P e=A iz)(h:gb P e=A z)
  (ab:z.cells.length=esz) (Y:0<esz)
  {a os:List (List af)} (d1:∀e∈a,e.length=esz) (d2:∀e∈a,∀v∈e,v.one=J) {news:List Value} (d3:bZ ρ a.flatten news) {l:Value} (M:Src P esz j l a.length news w)
  (m:∀e∈os,e.length=esz) (U:∀e∈os,∀v∈e,v.one=J) {olds:List Value} (o:bZ ρ os.flatten olds) (base:Option Addr) (n c:Nat) (G:os.length=n)
  (hold:(Builtin.firstCells esz n (.slice base n c)).run P w.drew= .ok olds.toArray w.drew) (aR:c<n+a.length) (B:(n+a.length)*iz<=140737488355328) (V:n+a.length<=9223372036854775807):
  ∃r q s,(Builtin.append_ #[t,j] ty #[.slice base n c,l]).run P w= .ok r q/\bC s (.az H.next 0 (n+a.length) esz Z) r/\Step ρ H w s (H.push (eT ot esz (os++a))) q:=by
 unfold gb at h;unfold cM at g;unfold ml at f;simp only[e4]at h;obtain⟨i,aP,d,Q,R⟩:=h;rw[aP]at g f;simp only[Option.map_some,bE]at g f;subst g;subst f;have N:=(AG R ρ).cells;have O:d.cells.size=i.size:=by have:=N.length;grind
 have L:=run_append_grow_src (P:=P) w t j ty e i d a_ aP Q base n c olds hold l a.length news M aR aa (growslice_fits aR B);have y:Rel ρ H w.drew:=x.drew;have b:=vM (w:=w.drew) y aB (ot:=ot) (esz:=i.size) (els:=os++a) (λe he=>(List.mem_append.1 he).elim (m e) (d1 e)) (λe he=>(List.mem_append.1 he).elim (U e) (d2 e))
  (xs:=olds++news) (tail:=(Builtin.zeroCells d.cells (grownCap w (n+a.length) c e-(n+a.length))).toList) (by simpa using o.append d3) e K
 have u:((olds++news)++(Builtin.zeroCells d.cells (grownCap w (n+a.length) c e-(n+a.length))).toList).toArray=(olds++news).toArray++Builtin.zeroCells d.cells (grownCap w (n+a.length) c e-(n+a.length)):=by
  grind
 rw[u]at b;refine⟨_,_,_,L,?_,⟨b.le,b.next,b.keep,b.rel,b.os,b.tape,b.output,b.size,b.frame,b.own,b.ro,b.olds⟩⟩;have E:=grownCap_ge w (n+a.length) c e;refine bC.az (ρ:=ρ.dF H.next _) H.next 0 (n+a.length) Z _ _ (grownCap w (n+a.length) c e) (Env.hD _ _ _) E (λk W=>al) (λ_=>⟨by show(⟨w.heap.size,0,Z⟩:Addr)=⟨w.heap.size,0+0*i.size,Z⟩;simp,?_⟩)
 have S:olds.length=n*i.size:=by rw[<-o.length,pL m,G]
 have l2:news.length=a.length*i.size:=by rw[<-d3.length,pL d1]
 have T:(Builtin.zeroCells d.cells (grownCap w (n+a.length) c e-(n+a.length))).size=(grownCap w (n+a.length) c e-(n+a.length))*i.size:=by rw[size_zeroCells,O]
 simp only[Nat.zero_add,List.length_append,S,l2,Array.length_toList,T];rw[<-Nat.add_mul,<-Nat.add_mul];grind
theorem adU(g:Rel ρ H w)(aB:ρ H.next=Z){ot:Option TypeId}{l i n esz:Nat}{els:List (List af)}(aR:H.get l=A (eT ot esz els)){loc:Loc}(ar:ρ l=A loc)(aX:i+n<=els.length)
  {c:List (List af)} (d1:∀e∈c,e.length=esz) (d2:∀e∈c,∀v∈e,v.one=J) {news:List Value} (d3:bZ ρ c.flatten news) (aU:loc.off+(i+n+c.length)*esz<=loc.size) (aC:∀o,ot=A o->i=0):
  Step ρ H w (ρ.dF H.next ⟨loc.block,loc.off+i*esz,esz,loc.size⟩) ((H.set l .dead).push (eT ot esz ((els.drop i).take n++c))) (w.setCells loc.block (loc.off+(i+n)*esz) news):=by
 have ax:=ae.bm aR;obtain⟨d,m,⟨_,arr,t,S,U,W,aE⟩,aI⟩:=vB g aR;obtain rfl:loc=d:=Option.some.inj (ar.symm.trans m);have a4:=W.1;have aV:=W.2 rfl;have hle:=Env.oO aB ⟨loc.block,loc.off+i*esz,esz,loc.size⟩;have a3:news.length=c.length*esz:=by rw[<-d3.length,pL d1]
 obtain⟨s1,s2,aO,hq⟩:=DX loc.block news (loc.off+(i+n)*esz) w;have E:∀k,k≠H.next->k≠l->((H.set l .dead).push (eT ot esz ((els.drop i).take n++c))).get k=H.get k:=λk ah ai=>by
  rw[ae.eI (fH ah),ae.b_ (Ne.symm ai)]
 have aQ:((H.set l .dead).push (eT ot esz ((els.drop i).take n++c))).get l=A .dead:=by
  rw[ae.eI (by simp;omega),ae.cO ax]
 have B:((H.set l .dead).push (eT ot esz ((els.drop i).take n++c))).get H.next=A (eT ot esz ((els.drop i).take n++c)):=ae.a1 (H.set l .dead) _
 have ad:∀k,((H.set l .dead).push (eT ot esz ((els.drop i).take n++c))).rw k->k≠H.next->H.rw k/\k≠l:=λk h a=>by
  grind[ae.rw]
 have aJ:∀k,((H.set l .dead).push (eT ot esz ((els.drop i).take n++c))).live k->k≠H.next->H.live k/\k≠l:=λk h a=>by
  grind[ae.live]
 have K:∀k d,H.live k->k≠l->ρ k=A d->d.block≠loc.block:=λk d h cD e heq=>
  g.apart l k loc d (p0 aR) h (Ne.symm cD) ar e heq.symm
 have key:gW (ρ.dF H.next ⟨loc.block,loc.off+i*esz,esz,loc.size⟩) (w.setCells loc.block (loc.off+(i+n)*esz) news) ⟨loc.block,loc.off+i*esz,esz,loc.size⟩ I esz ((els.drop i).take n++c)/\
   (w.setCells loc.block (loc.off+(i+n)*esz) news).heap[loc.block]? =A (.cells (j_ arr (loc.off+(i+n)*esz) news) t S):=by
  refine⟨⟨rfl,_,t,S,yU _ _ _ _ _ _ _ U,⟨by grind[vN],λ_=>by grind[vN]⟩,?_⟩,yU _ _ _ _ _ _ _ U⟩;intro q e he;have av:((els.drop i).take n).length=n:=al;by_cases aH:q<n
  ·rw[List.getElem?_append_left aa]at he;have an:=adS he;obtain⟨a0,L⟩:=aE _ e an;refine⟨a0,λj v p=> ?_⟩;obtain⟨M,x,aF,s⟩:=L j v p;refine⟨M,x,?_,s.mono hle⟩;have ao:j<esz:=by
    grind
   show(j_ arr (loc.off+(i+n)*esz) news)[loc.off+i*esz+q*esz+j]? =A x;rw[tw _ _ _ _ (by have:=vy (n:=esz) (show i+q<i+n by omega);rw[Nat.add_mul]at this;omega)];grind
  ·rw[List.getElem?_append_right aa,av]at he;refine⟨d1 e (List.mem_of_getElem? he),λj v p=> ?_⟩;obtain⟨x,aF,s⟩:=d3.get _ _ (Fm d1 he p);refine⟨d2 e (List.mem_of_getElem? he) v (List.mem_of_getElem? p),x,?_,s.mono hle⟩;have aD:q-n<c.length:=by
    grind
   have ao:j<esz:=by
    grind
   have aT:=vy (n:=esz) aD;have a2:(i+n+c.length)*esz=(i+n)*esz+c.length*esz:=Nat.add_mul _ _ _;have:=AR news arr (loc.off+(i+n)*esz) ((q-n)*esz+j) x aF aa;show(j_ arr (loc.off+(i+n)*esz) news)[loc.off+i*esz+q*esz+j]? =A x;rw[show loc.off+i*esz+q*esz+j=loc.off+(i+n)*esz+((q-n)*esz+j) by
    have:q*esz=n*esz+(q-n)*esz:=by rw[<-Nat.add_mul];grind
    grind]
   omega
 have V:∀b,b<w.heap.size->¬e5 ρ H b->(w.setCells loc.block (loc.off+(i+n)*esz) news).heap[b]? =w.heap[b]? :=by
  intro b _ aA;refine oa _ _ _ _ _ ?_;rintro rfl;exact aA ⟨l,loc,p0 aR,ar,rfl⟩
 have Y:∀b,e5 (ρ.dF H.next ⟨loc.block,loc.off+i*esz,esz,loc.size⟩) ((H.set l .dead).push (eT ot esz ((els.drop i).take n++c))) b->e5 ρ H b\/w.heap.size<=b:=by
  rintro b ⟨k,d,ah,ai,ay⟩;by_cases a:k=H.next
  ·subst a;rw[Env.hD]at ai;obtain rfl:=Option.some.inj ai;exact .inl ⟨l,loc,p0 aR,ar,ay⟩
  ·obtain⟨G,_⟩:=ad k ah a;rw[Env.hV a]at ai;exact .inl ⟨k,d,G,ai,ay⟩
 refine⟨hle,aW,λk a=>Env.hV (by simp at a;omega),⟨?_,?_,?_,?_,?_⟩,s2,aO,hq,Nat.le_of_eq s1.symm,V,Y,?ro,?olds⟩
 case olds=>
  refine .same λk aN z y h=> ?_
  by_cases a:k=H.next
  ·subst a;rw[B]at h;cases ot<;>cases h
  grind
 case ro=>
  intro k z y h;by_cases a:k=H.next
  ·subst a;rw[B]at h;have:=Gi ot esz ((els.drop i).take n++c);rw[Option.some.inj h]at this;cases this
  grind
 ·intro k a6 z y h;by_cases a:k=H.next
  ·grind[Gj,Env.hD]
  ·by_cases f:k=l
   ·grind
   ·rw[E k a f]at h;obtain⟨d,m,aL,aj,o,ak,aM,Q,R⟩:=g.row _ _ _ _ h;have r:=K k d (.inl ⟨_,_,_,h⟩) f m;refine⟨d,by grind[Env.hV],aL,aj,o,ak,by grind[oa],Q,?_⟩;intro q e he;obtain⟨a0,L⟩:=R q e he;refine⟨a0,λj v p=> ?_⟩;obtain⟨M,x,aF,s⟩:=L j v p;exact⟨M,x,aF,s.mono hle⟩
 ·intro k es h;by_cases a:k=H.next
  ·grind[Gh]
  ·by_cases f:k=l
   ·grind
   ·rw[E k a f]at h;obtain⟨d,m,ents,clock,aM,Q,R⟩:=g.map _ _ h;have r:=K k d (.inr (.inl ⟨_,h⟩)) f m;exact⟨d,by grind[Env.hV],ents,clock,by grind[oa],Q.mono hle,R.mono hle⟩
 ·intro k o z y h;by_cases a:k=H.next
  ·subst a;rw[B]at h;obtain⟨T,rfl,rfl⟩:=Gk (Option.some.inj h);obtain⟨bu,aP,aS,a5⟩:=aI o T;obtain rfl:=aC o T;have aG:o=t:=al;subst aG;exact⟨_,Env.hD _ _ _,key.1,_,_,key.2,al⟩
  ·by_cases f:k=l
   ·grind
   ·rw[E k a f]at h;obtain⟨d,m,au⟩:=g.ee _ _ _ _ h;have r:=K k d (.inr (.inr ⟨_,_,_,h⟩)) f m;exact⟨d,by grind[Env.hV],au.frame hle (oa _ _ _ _ _ r)⟩
 ·intro k P ab aK ah ai r N u;by_cases a:k=H.next
  ·grind[Env.hD,Env.hV]
  ·obtain⟨G,ap⟩:=ad k ah a;rw[Env.hV a]at N;by_cases O:P=H.next
   ·subst O;rw[Env.hD]at u;obtain rfl:=Option.some.inj u;exact K k ab G.live ap N
   ·obtain⟨am,aZ⟩:=aJ P ai O;rw[Env.hV O]at u;exact g.apart k P ab aK G am r N u
 ·intro k aN z y h;by_cases a:k=H.next
  ·subst a;rw[B]at h;cases ot<;>cases h
  ·by_cases f:k=l
   ·grind
   ·rw[E k a f]at h;exact(g.old _ _ _ _ h).step hle (Nat.le_of_eq s1.symm) V Y
theorem Step.dead{o:Env}{d f:ae}{n:World}(h:Step ρ H w o d n)(aL:f.next=d.next)(aR:∀k,f.get k=d.get k\/f.get k=A .dead):Step ρ H w o f n:=by
 have g:∀k ro esz els,f.get k=A (.row ro esz els)->d.get k=A (.row ro esz els):=al;have get_map:∀k es,f.get k=A (.map es)->d.get k=A (.map es):=al;have q:∀k t esz els,f.get k=A (.ee t esz els)->d.get k=A (.ee t esz els):=al;have i:∀k,f.rw k->d.rw k:=λk h=>by
  rcases h with⟨a,b,h⟩|⟨a,h⟩|⟨a,b,c,h⟩
  ·exact .inl ⟨a,b,g _ _ _ _ h⟩
  ·exact .inr (.inl ⟨a,get_map _ _ h⟩)
  ·exact .inr al
 have r:∀k,f.live k->d.live k:=λk h=>by
  rcases h with⟨a,b,c,h⟩|⟨a,h⟩|⟨a,b,c,h⟩
  ·exact .inl al
  ·exact .inr (.inl ⟨a,get_map _ _ h⟩)
  ·exact .inr al
 refine⟨h.le,by rw[aL];exact h.next,λl ar=>h.keep l aa,⟨λl ro esz els e=>h.rel.row l ro esz els (g _ _ _ _ e),λl es e=>h.rel.map l es (get_map _ _ e),λl t esz els e=>h.rel.ee l t esz els (q _ _ _ _ e),λl j a b ah ai=>h.rel.apart l j a b (i _ ah) (r _ ai),λl s esz els e=> ?_⟩,h.os,h.tape,h.output,h.size,h.frame,?_,λk esz els e=>h.ro k esz els (g _ _ _ _ e),λk s esz els e=>h.olds k s esz els (by
  grind)⟩
 ·have p:d.get l=A (.old s esz els):=by
   grind
  obtain⟨loc,x,v,y⟩:=h.rel.old _ _ _ _ p;exact⟨loc,x,v,y.imp id λm=>⟨m.1,λ⟨j,u,z,B,E⟩=>m.2 ⟨j,u,i _ z,B,E⟩⟩⟩
 ·rintro b ⟨l,loc,ah,ai,ay⟩;exact h.own b ⟨l,loc,i _ ah,ai,ay⟩
theorem Step.ado{f:Env}{d g:ae}{i:World}(h:Step ρ H w f d i)(aL:g.next=d.next)(aR:∀k,g.get k=d.get k\/(d.get k=A .dead/\∃s esz els,g.get k=A (.old s esz els)/\po f (e5 f d) i k s esz els/\∃loc,f k=A loc/\e5 ρ H loc.block)):Step ρ H w f g i:=by
 have same:∀k b,b.ri=I->g.get k=A b->d.get k=A b:=λk b q e=>by
  rcases aR k with h|⟨_,s,esz,els,h,_⟩
  ·grind
  ·rw[h]at e;cases e;cases q
 have j:∀k,g.rw k->d.rw k:=λk h=>by
  rcases h with⟨a,b,h⟩|⟨a,h⟩|⟨a,b,c,h⟩
  ·exact .inl ⟨a,b,same _ _ rfl h⟩
  ·exact .inr (.inl ⟨a,same _ _ rfl h⟩)
  ·exact .inr al
 have r:∀k,g.live k->d.live k:=λk h=>by
  rcases h with⟨a,b,c,h⟩|⟨a,h⟩|⟨a,b,c,h⟩
  ·exact .inl ⟨a,b,c,same _ _ rfl h⟩
  ·exact .inr (.inl ⟨a,same _ _ rfl h⟩)
  ·exact .inr al
 have sub:∀{l s esz els},po f (e5 f d) i l s esz els->po f (e5 f g) i l s esz els:=λ⟨loc,x,v,y⟩=>⟨loc,x,v,y.imp id λn=>⟨n.1,λ⟨m,u,z,B,E⟩=>n.2 ⟨m,u,j _ z,B,E⟩⟩⟩
 refine⟨h.le,by rw[aL];exact h.next,λl ar=>h.keep l aa,⟨λl ro esz els e=>h.rel.row l ro esz els (same _ _ rfl e),λl es e=>h.rel.map l es (same _ _ rfl e),λl t esz els e=>h.rel.ee l t esz els (same _ _ rfl e),λl m a b ah ai=>h.rel.apart l m a b (j _ ah) (r _ ai),λl s esz els e=> ?_⟩,h.os,h.tape,h.output,h.size,h.frame,?_,λk esz els e=>h.ro k esz els (same _ _ rfl e),λk s esz els e=> ?_⟩
 ·rcases aR l with ah|⟨_,G,p,o,ah,ai,_⟩
  ·exact sub (h.rel.old _ _ _ _ al)
  grind
 ·rintro b ⟨l,loc,ah,ai,ay⟩;exact h.own b ⟨l,loc,j _ ah,ai,ay⟩
 ·rcases aR k with ah|⟨_,G,p,o,ah,_,loc,ai,ay⟩
  ·exact h.olds k s esz els al
  grind
theorem UO{ot:Option TypeId}{l i n esz a:Nat}{els os:List (List af)}(aR:H.get l=A (eT ot a els))(h:hH H l i n esz=A os):a=esz/\i+n<=els.length/\os=(els.drop i).take n:=by
 unfold hH at h;cases ot with
 |none=>
  grind[eT]
 |some t=>
  grind[eT]
theorem Nw(s:Rel ρ H w)(aB:ρ H.next=Z){ot:Option TypeId}{t G e:TypeId}(aA:∀f,ot=A f->f=e)(ty:TypeId)(hu:P.underlying t=A (.slice e)){iz:Nat}{z:af}{l i n:Nat}{cap:Option Nat}{loc:Loc}{a os:List (List af)}(aR:cap=Z)(aS:¬a.length=0)(aF:cM P e=A loc.esz)(aj:ml P e=A iz)(aG:gb P e=A z)
  (aH:z.cells.length=loc.esz) (aC:0<loc.esz)
  (d1:∀e∈a,e.length=loc.esz) (d2:∀e∈a,∀v∈e,v.one=J) {news:List Value} (d3:bZ ρ a.flatten news) {K:Value} (aE:Src P loc.esz G K a.length news w)
  (B:os.length=n) (aK:∀e∈os,e.length=loc.esz) (aL:∀e∈os,∀v∈e,v.one=J) {olds:List Value} (aM:bZ ρ os.flatten olds) (o:Addr) (c:Nat)
  (hold:(Builtin.firstCells loc.esz n (.slice (A o) n c)).run P w.drew= .ok olds.toArray w.drew) (L:(n+a.length)*iz<=140737488355328/\n+a.length<=9223372036854775807)
  (ar:ρ l=A loc) (ad:0<c->o=⟨loc.block,loc.off+i*loc.esz,Z⟩/\loc.off+(i+c)*loc.esz<=loc.size) {V:Nat} {d:List (List af)} (av:∀f,ot=A f->i=0) (q:H.get l=A (eT ot V d)) (ay:hH H l i n loc.esz=A os):
  ∃r m g,(Builtin.append_ #[t,G] ty #[.slice (A o) n c,K]).run P w= .ok r m/\bC g (.az H.next 0 (n+a.length) loc.esz Z) r/\Step ρ H w g ((H.set l .dead).push (eT ot loc.esz (os++a))) m/\(i=0->po g (e5 g ((H.set l .dead).push (eT ot loc.esz (os++a)))) m l H.next loc.esz d):=by
 obtain⟨aT,ax⟩:=UO q ay;obtain⟨y,aX,⟨ak,arr,t0,aP,aQ,M,a0⟩,-⟩:=vB s q;obtain rfl:loc=y:=al;subst ak;obtain⟨au,rfl⟩:=ax
 ·have B:=B;by_cases x:n+a.length<=c
  ·obtain⟨rfl,am⟩:=ad aa;have a2:=M.1;have aU:=M.2 rfl;have a3:=adU (n:=n) s aB q ar au d1 d2 d3 (by
    refine Nat.le_trans (Nat.add_le_add_left (Nat.mul_le_mul_right _ ?_) _) am;omega) av
   have aZ:news.length=a.length*loc.esz:=by rw[<-d3.length,pL d1]
   have aV:∀j,j<news.length->loc.off+i*loc.esz+n*loc.esz+j<arr.size:=by
    intro j O;have ah:(i+c)*loc.esz=i*loc.esz+c*loc.esz:=Nat.add_mul _ _ _;have ai:n*loc.esz+a.length*loc.esz<=c*loc.esz:=by rw[<-Nat.add_mul];exact Nat.mul_le_mul_right _ x
    omega
   cases ao:P.info? e with
   |none=>grind[cM]
   |some S=>
    have ap:S.size=loc.esz:=by grind[cM]
    have R:=run_append_room_src (P:=P) w t G ty e S hu ao loc.block (loc.off+i*loc.esz) n c K a.length news al x
     (λj O=>by grind[World.cell?])
     (λj O=>by
      grind[World.frozen?])
    rw[ap]at R;refine⟨_,_,_,R,?_,by rw[show loc.off+i*loc.esz+n*loc.esz=loc.off+(i+n)*loc.esz by grind];omega,λan=>⟨loc,by grind[Env.hV],by grind[DX],.inl (by rw[Env.hD,an,Nat.zero_mul,Nat.add_zero])⟩⟩;refine bC.az (ρ:=ρ.dF H.next _) H.next 0 (n+a.length) Z ⟨loc.block,loc.off+i*loc.esz,loc.esz,loc.size⟩ _ c (Env.hD _ _ _) x (λk b=>al) (λ_=>⟨aW,?_⟩)
    grind
  ·
    obtain⟨r,m,g,Y,ab,p⟩:=Fx s aB (ot:=ot) aA ty hu aF aj aG aH aC d1 d2 d3 aE aK aL aM (A o) n c B hold aa L.1 L.2;have Q:=ae.bm q;refine⟨r,m,g,Y,ab,p.dead aW (λk=> ?_),λ_=> ?_⟩
    rotate_left
    ·have N:(H.push (eT ot loc.esz ((d.drop i).take n++a))).get l=A (eT ot loc.esz d):=by grind[ae.eI]
     obtain⟨y,E,⟨a4,U,f,W,T,aN,aO⟩,_⟩:=vB p.rel N;obtain rfl:loc=y:=Option.some.inj ((p.le _ _ ar).symm.trans E);refine⟨loc,E,z6 T,.inr ⟨⟨rfl,U,f,W,T,⟨aN.1,λe=>by cases e⟩,aO⟩,?_⟩⟩;rintro⟨k,aJ,bS,b2,aI⟩;have u:k≠l:=by
      rintro rfl;have:((H.set k .dead).push (eT ot loc.esz ((d.drop i).take n++a))).get k=A .dead:=by rw[ae.eI (by simp;omega),ae.cO Q]
      rcases bS with⟨_,_,h⟩|⟨_,h⟩|⟨_,_,_,h⟩<;>(rw[this]at h;cases h)
     have aD:(H.push (eT ot loc.esz ((d.drop i).take n++a))).rw k:=by
      have e:((H.set l .dead).push (eT ot loc.esz ((d.drop i).take n++a))).get k=(H.push (eT ot loc.esz ((d.drop i).take n++a))).get k:=by
       by_cases b:k=H.next
       ·subst b;rw[ae.a1];exact ae.a1 (H.set l .dead) _
       ·rw[ae.eI (fH b),ae.b_ aa,ae.eI b]
      grind[ae.rw]
     exact p.rel.apart k l aJ loc aD (p0 N).live u b2 E aI
    by_cases b:k=H.next
    ·subst b;left;rw[ae.a1];exact ae.a1 (H.set l .dead) _
    ·by_cases u:k=l
     ·subst u;right;rw[ae.eI (fH b),ae.cO Q]
     ·left;rw[ae.eI (fH b),ae.b_ aa,ae.eI b]
theorem JX(z:Array Value):∀n,(Builtin.zeroCells z n).toList=(List.replicate n z.toList).flatten
 |0=>by simp[Builtin.zeroCells]
 |n+1=>by
  rw[List.replicate_succ,List.flatten_cons,<-JX z n];apply List.ext_getElem?;intro i;simp only[Builtin.zeroCells,Array.toList_map,Array.toList_range,List.getElem?_map];by_cases aP:i<(n+1)*z.size
  ·have a:0<z.size:=by
    grind
   rw[List.getElem?_range aP];by_cases ai:i<z.size
   ·grind[Nat.mod_eq_of_lt]
   grind[Nat.mod_eq_sub_mod]
  grind
theorem ahb(t a ty e:TypeId)(i:TypeInfo)(z:Value)(a_:P.underlying t=A (.slice e))(aP:P.info? e=A i)(c:i.zero=A z)(aF:P.underlying a=A (.int .i64))(n:Nat)(aL:0<n)(k:0<i.size)
  (h:n*i.bytes<=140737488355328) (g:n<=1125899906842624) (j:Builtin.nextslicecap n 0*i.bytes<=281474976710656):
  (Builtin.append_ #[t,a] ty #[.slice Z 0 0,.int .i64 n]).run P w=
   .ok (.slice (A ⟨w.heap.size,0,Z⟩) n (grownCap w n 0 e)) (w.drew.alloc (.cells (Builtin.zeroCells z.cells n++Builtin.zeroCells z.cells (grownCap w n 0 e-n)) e)):=by
 have hw:IntKind.i64.wrap (n:Int)=n:=(by grind[IntWalk.i64_in]);have ah:¬((n:Int)<0):=aa;have ai:¬((n:Int)*(i.bytes:Int)>281474976710656):=by
  omega
 have ay:¬(n<=0):=aa;have aM:¬(9223372036854775807<(n:Int)):=aa;have b:¬(281474976710656<Builtin.nextslicecap n 0*i.bytes):=aa;have d:¬(n*i.size=0):=by
  grind[Nat.mul_eq_zero]
 have f:¬(n=0\/i.size=0):=aa;simp[Builtin.append_,run_underlying a_,run_underlying aF,sizeOf,typeInfo,zeroValue,aP,c,ah,ai,aM,b,hw,asInt,asIntOf,Question.forced,newRow,grownCap,Builtin.firstCells];grind
theorem T7{ρ:Env}{cs:List af}{xs:List Value}(h:bZ ρ cs xs):∀n,bZ ρ (List.replicate n cs).flatten (List.replicate n xs).flatten
 |0=> .nil
 |n+1=>by rw[List.replicate_succ,List.replicate_succ,List.flatten_cons,List.flatten_cons];exact h.append (T7 h n)
theorem U6(y:Rel ρ H w){t j e:TypeId}{s x a:af}{m p:Value}{H':ae}(ty:TypeId)(hu:P.underlying t=A (.slice e))(M:P.underlying j=A (.int .i64))(h:zp P H e s x=A (a,H'))(B:H.next<H'.next->ρ H.next=Z)(L:bC ρ s m)(aF:bC ρ x p):
  ∃r o q,(Builtin.append_ #[t,j] ty #[m,p]).run P w= .ok r o/\bC q a r/\Step ρ H w q H' o:=by
 unfold zp at h;split at h
 ·rename_i n;cases L;cases aF;split at h
  ·rename_i esz iz z f d g;split at h
   ·rename_i aA;obtain⟨aL,V,G,U,l,v⟩:=aA;simp only[bE,dV]at h;obtain⟨rfl,rfl⟩:=h;have aB:=B aW;unfold gb at g;unfold cM at f;unfold ml at d;simp only[e4]at g;obtain⟨i,aP,c,Q,R⟩:=g;rw[aP]at f d;simp only[Option.map_some,bE]at f d;subst f;subst d;have N:=(AG R ρ).cells;have O:c.cells.size=i.size:=by have:=N.length;grind
    have S:=growslice_fits (need:=n) (old:=0) (bytes:=i.bytes) aa l;have K:=ahb (P:=P) (w:=w) t j ty e i c hu aP Q M n aL G l v aa;have b:=vM (w:=w.drew) y.drew aB (ot:=none) (esz:=i.size) (els:=List.replicate n z.cells) al al
     (xs:=(Builtin.zeroCells c.cells n).toList) (tail:=(Builtin.zeroCells c.cells (grownCap w n 0 e-n)).toList) (by grind[JX,T7]) e (λ_ h=>by cases h)
    have u:((Builtin.zeroCells c.cells n).toList++(Builtin.zeroCells c.cells (grownCap w n 0 e-n)).toList).toArray=Builtin.zeroCells c.cells n++Builtin.zeroCells c.cells (grownCap w n 0 e-n):=by
     grind
    rw[u]at b;refine⟨_,_,_,K,?_,⟨b.le,b.next,b.keep,b.rel,b.os,b.tape,b.output,b.size,b.frame,b.own,b.ro,b.olds⟩⟩;have E:n<=grownCap w n 0 e:=grownCap_ge w n 0 e;refine bC.az (ρ:=ρ.dF H.next _) H.next 0 n Z _ _ (grownCap w n 0 e) (Env.hD _ _ _) E (λk T=>al) (λ_=>⟨by show(⟨w.heap.size,0,Z⟩:Addr)=⟨w.heap.size,0+0*i.size,Z⟩;simp,?_⟩)
    simp only[Nat.zero_add,Array.length_toList,size_zeroCells,O];rw[<-Nat.add_mul];grind
   grind
  grind
 grind
theorem UB(b:Rel ρ H w){ts:List TypeId}{s x a:af}{ah V:Value}{H':ae}(ty:TypeId)(h:ej P H ts s x=A (a,H'))(q:H.next<H'.next->ρ H.next=Z)(G:bC ρ s ah)(aF:bC ρ x V):
  ∃r g m,(Builtin.append_ ts.toArray ty #[ah,V]).run P w= .ok r g/\bC m a r/\Step ρ H w m H' g:=by
 unfold ej at h;split at h
 ·rename_i t aC;split at h
  ·rename_i e hu;split at h
   ·rename_i ak;exact U6 b ty hu (aa2 ak) h q G aF
   split at h
   ·rename_i esz iz z L B M;split at h
    ·rename_i O ao;obtain⟨d1,d2,news,d3,K⟩:=Vf (P:=P) b ao aF;split at h
     ·rename_i av;obtain⟨N,E⟩:=av;have aH:O.length=0->Src P esz aC V 0 [] w:=λf=>by
       have:O=[]:=al;subst this;have:news=[]:=by cases d3;rfl
       grind
      split at h
      ·cases G;split at h
       ·rename_i f;simp only[bE,dV]at h;obtain⟨rfl,rfl⟩:=h;exact⟨_,_,_,(by grind[Rx]),.aq,Step.refl b⟩
       ·rename_i f;split at h
        ·rename_i p;simp only[bE,dV]at h;obtain⟨rfl,rfl⟩:=h;have aB:=q aW;have:=Fx b aB (Vm (x:=x)) ty hu L B M N E d1 d2 d3 K (os:=[]) aW aW (olds:=[]) (by simpa using bZ.nil) Z 0 0 rfl
          (by grind[run_firstCells_none]) aa al aa
         grind
        grind
      ·rename_i l i n aD cap;split at h
       ·rename_i he;split at h
        ·rename_i f;simp only[bE,dV]at h;obtain⟨rfl,rfl⟩:=h;cases G with|az _ _ _ _ loc d c ar aL aA o=>
         exact⟨_,_,_,(by grind[Rx]),.az l i n cap loc d c ar aL aA o,Step.refl b⟩
        ·rename_i f;split at h
         ·rename_i p;split at h
          ·rename_i os Q;cases G with|az _ _ _ _ loc d c ar aL aA o=>
           subst he;obtain⟨R,S,T,olds,U,ax,ay,aJ⟩:=Ey b Q ar;have hold:(Builtin.firstCells loc.esz n (.slice (A d) n c)).run P w.drew= .ok olds.toArray w.drew:=by
            refine run_firstCells_some w.drew loc.esz n d n c olds ax (λj u ap=> ?_);have an:0<c:=by
             grind
            obtain⟨rfl,_⟩:=o an;rw[nB];exact ay j u ap
           split at h
           ·rename_i aE;simp only[bE,dV]at h;obtain⟨rfl,rfl⟩:=h;have aB:=q aW;have am:c<n+O.length:=by
             cases aG:cap with
             |none=>grind
             |some k=>grind
            exact Fx b aB (ot:=none) (λ_ h=>by cases h) ty hu L B M N E d1 d2 d3 K S T U (A d) n c R hold am p.1 p.2
           ·split at h
            ·rename_i ab;split at h
             ·rename_i ai aj v;simp only[bE,dV]at h;obtain⟨rfl,rfl⟩:=h;obtain⟨r,g,m,W,Y,z3,z4⟩:=Nw b (q aW) (ot:=none) (λ_ h=>by cases h) ty hu ab f L B M N E d1 d2 d3 K R S T U d c hold p ar o (λ_ h=>by cases h) v Q;refine⟨r,g,m,W,Y,z3.ado aW λk=> ?_⟩;have ad:=ae.bm v;by_cases y:k=H.next
              ·subst y;left;exact(ae.a1 (H.set l _) _).trans (ae.a1 (H.set l .dead) _).symm
              ·by_cases au:k=l
               ·subst au;rw[ae.eI (fH y),ae.cO ad,ae.eI (fH y),ae.cO ad];cases i with
                |zero=>exact .inr ⟨rfl,_,_,_,rfl,z4 rfl,loc,z3.le _ _ ar,_,loc,.inl ⟨_,_,v⟩,ar,rfl⟩
                |succ i=>exact .inl rfl
               ·left;rw[ae.eI (fH y),ae.b_ aa,ae.eI (fH y),ae.b_ aa]
             ·rename_i t0 ai aj v;split at h
              ·rename_i aI;simp only[bE,dV]at h;obtain⟨rfl,rfl⟩:=h;obtain⟨r,g,m,W,Y,z3,_⟩:=Nw b (q aW) (ot:=some t0) al ty hu ab f L B M N E d1 d2 d3 K R S T U d c hold p ar o aa v Q;exact⟨r,g,m,W,Y,z3⟩
              grind
             grind
            grind
          grind
         grind
       grind
      grind
     grind
    grind
   grind
  grind
 grind
end
section
variable {P:Program}{ρ:Env}{H:ae}{w:World}
def u1(P:Program)(H:ae)(t:TypeId)(x:af):Option af:=
 match P.underlying t,x with
 |some .string,.str s=>A (.int .i64 s.length)
 |some (.slice _),.az _ _ n _ _=>A (.int .i64 n)
 |some (.slice _),.aq=>A (.int .i64 0)
 |some (.array n _),_=>A (.int .i64 n)
 |some (.map _ _),.jC=>A (.int .i64 0)
 |some (.map _ _),.map l=>(match H.get l with|some (.map es)=>A (.int .i64 es.length)|_=>Z)
 |_,_=>Z
theorem vj{l:Nat}{es:List (af×af)}(a:Rel ρ H w)(aR:H.get l=A (.map es)){loc:Loc}(ar:ρ l=A loc):
  ∃ents clock,w.heap[loc.block]? =A (.map ents clock)/\(getObj loc.block).run P w= .ok (.map ents clock) w/\bZ ρ (es.map (·.1)) (ents.toList.map (·.key))/\bZ ρ (es.map (·.2)) (ents.toList.map (·.val)):=by
 obtain⟨d,c,ents,clock,b,ah,ai⟩:=a.map _ _ aR;grind[getObj,Sem.run]
theorem U0(b:Rel ρ H w){t:TypeId}{x v:af}{a:Value}(ty:TypeId)(h:u1 P H t x=A v)(aF:bC ρ x a):∃r,(Builtin.len_ #[t] ty #[a]).run P w= .ok r w/\bC ρ v r:=by
 unfold u1 at h;split at h
 ·rename_i s hu;cases aF;simp only[bE]at h;subst h;have d:(⟨s.toArray⟩:ByteArray).size=s.length:=by show s.toArray.size=_;simp
  exact⟨_,by simp[Builtin.len_,run_underlying hu,goInt,d],.int _ _⟩
 ·rename_i hu;cases aF;simp only[bE]at h;subst h;exact⟨_,by simp[Builtin.len_,run_underlying hu,goInt],.int _ _⟩
 ·rename_i hu;cases aF;simp only[bE]at h;subst h;exact⟨_,by simp[Builtin.len_,run_underlying hu,goInt],.int _ _⟩
 ·rename_i n e hu;simp only[bE]at h;subst h;exact⟨_,by simp[Builtin.len_,run_underlying hu,goInt],.int _ _⟩
 ·rename_i hu;cases aF;simp only[bE]at h;subst h;exact⟨_,by simp[Builtin.len_,run_underlying hu,goInt],.int _ _⟩
 ·rename_i hu;cases aF with|map _ loc ar=>
  split at h
  ·rename_i es aR;simp only[bE]at h;subst h;obtain⟨ents,clock,f,c,ah,ai⟩:=vj (P:=P) b aR ar;have hlen:=ah.length;simp only[List.length_map,Array.length_toList]at hlen;exact⟨_,by simp[Builtin.len_,run_underlying hu,goInt,c,<-hlen],.int _ _⟩
  grind
 grind
def EH(x y:af):Option af:=
 match x,y with
 | .int k a,.int _ b=>A (.int k (if a<b then b else a))
 |_,_=>Z
def EI(x y:af):Option af:=
 match x,y with
 | .int k a,.int _ b=>A (.int k (if b<a then b else a))
 |_,_=>Z
theorem U8{x y v:af}{a b:Value}(ts:Array TypeId)(ty:TypeId)(h:EH x y=A v)(aF:bC ρ x a)(c:bC ρ y b)(w:World):∃r,(Builtin.max_ ts ty #[a,b]).run P w= .ok r w/\bC ρ v r:=by
 unfold EH at h;split at h
 ·cases aF;cases c;simp only[bE]at h;subst h;exact⟨_,by simp[Builtin.max_,Builtin.max2],.int _ _⟩
 grind
theorem U_{x y v:af}{a b:Value}(ts:Array TypeId)(ty:TypeId)(h:EI x y=A v)(aF:bC ρ x a)(c:bC ρ y b)(w:World):∃r,(Builtin.min_ ts ty #[a,b]).run P w= .ok r w/\bC ρ v r:=by
 unfold EI at h;split at h
 ·cases aF;cases c;simp only[bE]at h;subst h;exact⟨_,by simp[Builtin.min_,Builtin.min2],.int _ _⟩
 grind
def jd(x:af)(i:Nat):Option af:=
 match x with
 | .tuple ak=>ak[i]?
 |_=>Z
theorem UT{x v:af}{a:Value}{i:Nat}(h:jd x i=A v)(aF:bC ρ x a)(w:World):∃r,(Instr.extract a i).run P w= .ok r w/\bC ρ v r:=by
 unfold jd at h;split at h
 ·cases aF with|tuple _ xs b=>
  obtain⟨r,au,c⟩:=b.get _ _ h;exact⟨r,by simp[Instr.extract,au],c⟩
 grind
def sF(P:Program)(src dst:TypeId)(x:af):Option af:=
 match P.underlying src,P.underlying dst,x with
 |some _,A (.int k),.int _ n=>A (.int k (k.wrap n))
 |some _,A .string,.str s=>A (.str s)
 |_,_,_=>Z
theorem UK{src dst:TypeId}{x v:af}{c:Value}(h:sF P src dst x=A v)(aF:bC ρ x c)(w:World):∃r,(convert src dst c).run P w= .ok r w/\bC ρ v r:=by
 unfold sF at h;split at h
 ·rename_i b a;cases aF;simp only[bE]at h;subst h;exact⟨_,by simp[convert,run_underlying b,run_underlying a,Conv.intToInt],.int _ _⟩
 ·rename_i b a;cases aF;simp only[bE]at h;subst h;exact⟨_,by simp[convert,run_underlying b,run_underlying a],.str _⟩
 grind
def byteOf:List af->Option UInt8
 |[.int .u8 n]=>A (UInt8.ofNat n.toNat)
 |_=>Z
def bytesOf:List (List af)->Option (List UInt8)
 |[]=>A []
 |e::r=>match byteOf e,bytesOf r with
  |some b,A l=>A (b::l)
  |_,_=>Z
def uW(P:Program)(H:ae)(src dst:TypeId)(x:af):Option af:=
 match P.underlying src,P.underlying dst,x with
 |some (.slice e),A .string,.az l i n esz _=>
  (match P.underlying e,hH H l i n esz with
  |some (.int .u8),A a=>if esz=1 then(bytesOf a).map .str else Z
  |_,_=>Z)
 |some (.slice e),A .string,.aq=>(match P.underlying e with|some (.int .u8)=>A (.str [])|_=>Z)
 |_,_,_=>Z
theorem Lc(f:Value->ByteArray->Sem (ForInStep ByteArray))(aB:∀n s,f (.int .u8 n) s=pure (ForInStep.yield (s.push (UInt8.ofNat n.toNat)))):∀(a:List (List af)) (bs:List UInt8),bytesOf a=A bs->∀(xs:List Value),bZ ρ a.flatten xs->∀(acc:ByteArray),
  (forIn xs acc f).run P w= .ok (acc++⟨bs.toArray⟩) w
 |[],bs,h,xs,aF,acc=>by
  simp[bytesOf]at h;subst h;cases aF;have:acc++(⟨#[]⟩:ByteArray)=acc:=by apply ByteArray.ext;simp
  grind[Sem.run_pure]
 |d::a,bs,h,xs,aF,acc=>by
  unfold bytesOf at h;split at h
  ·rename_i b l c ar;simp only[bE]at h;subst h;unfold byteOf at c;split at c
   ·rename_i n;simp only[bE]at c;subst c;cases aF with|cons _ x _ j e g=>
    cases e;have i:=Lc f aB a l ar j g (acc.push (UInt8.ofNat n.toNat));rw[List.forIn_cons];simp only[Sem.run_bind,aB,Sem.run_pure,Result.andThen_ok];rw[i]
    congr 1
    apply ByteArray.ext;simp
   grind
  grind
theorem UG(j:Rel ρ H w){src dst:TypeId}{x v:af}{f:Value}(h:uW P H src dst x=A v)(aF:bC ρ x f):∃r,(convert src dst f).run P w= .ok r w/\bC ρ v r:=by
 unfold uW at h;split at h
 ·rename_i e l i n esz cap d b;split at h
  ·rename_i g he m;split at h
   ·rename_i ah;simp only[Option.map_eq_some_iff]at h;obtain⟨bs,k,rfl⟩:=h;cases aF with|az _ _ _ _ loc a c ar aL aA t=>
    obtain⟨u,y,z,xs,q,s,B,E⟩:=Ey j m ar;refine⟨.string ⟨bs.toArray⟩,?_,.str _⟩;have p:(loadCells a n).run P w= .ok xs.toArray w:=by
     rw[ah,Nat.mul_one]at s;grind[run_loadCells_list,nB]
    have o:ByteArray.empty++(⟨bs.toArray⟩:ByteArray)=⟨bs.toArray⟩:=by apply ByteArray.ext;simp
    simp only[convert,Sem.run_bind,run_underlying d,run_underlying b,run_underlying he,Result.andThen_ok,Conv.bytesToString,p];rw[<-Array.forIn_toList];show((Sem.run P (forIn xs ByteArray.empty _) w).andThen _)=_;rw[Lc (P:=P) (w:=w) _ (λ_ _=>rfl) g bs k xs q ByteArray.empty,o];rfl
   grind
  grind
 ·rename_i e d b;cases aF;split at h
  ·rename_i he;simp only[bE]at h;subst h;exact⟨.string ⟨#[]⟩,by simp[convert,run_underlying d,run_underlying b,run_underlying he,Conv.bytesToString];rfl,.str []⟩
  grind
 grind
def h0(P:Program)(H:ae)(t:TypeId)(l c:af):Option (af×ae):=
 match P.underlying t,l,c with
 |some (.slice e),.int bS n,.int b2 m=>
  (match cM P e,ml P e,gb P e with
  |some a,A iz,A z=>
   if bS= .i64/\b2= .i64/\0<=n/\n<=m/\m<=9223372036854775807/\(iz:Int)*m<=281474976710656/\z.cells.length=a/\0<a/\z.cells.all af.one=J then
    A (.az H.next 0 n.toNat a (A m.toNat),H.push (.row I a (List.replicate m.toNat z.cells)))
   else Z
  |_,_,_=>Z)
 |_,_,_=>Z
theorem wrap_i64{n:Int}(a:0<=n)(ah:n<=9223372036854775807):IntKind.i64.wrap n=n:=(by grind[IntWalk.i64_in])
theorem U7(x:Rel ρ H w)(aB:ρ H.next=Z){t:TypeId}{l c a:af}{p g:Value}{H':ae}(h:h0 P H t l c=A (a,H'))(ar:bC ρ l p)(aA:bC ρ c g):
  ∃r q s,(Instr.makeSlice t p g).run P w= .ok r q/\bC s a r/\Step ρ H w s H' q:=by
 unfold h0 at h;split at h
 ·rename_i e bS n b2 m hu;cases ar;cases aA;split at h
  ·rename_i b iz z M T Q;split at h
   ·rename_i y;obtain⟨rfl,rfl,i,ah,ai,ay,ad,ab,W⟩:=y;simp only[bE,dV]at h;obtain⟨rfl,rfl⟩:=h;obtain⟨f,S,R⟩:=pz Q w;have Y:∀u∈z.cells,u.one=true:=al;have k:=(R ρ).cells;have d:f.cells.size=b:=by have:=k.length;grind
    have K:=bZ.Fo k m.toNat;have L:=vM x aB (ot:=none) (esz:=b) (els:=List.replicate m.toNat z.cells) al
     al K (tail:=[]) e (λ_ h=>by cases h)
    cases B:P.info? e with
    |none=>grind[cM]
    |some o=>
     have U:o.size=b:=by grind[cM]
     have E:o.bytes=iz:=by grind[ml]
     have hlen:(List.replicate m.toNat f.cells.toList).flatten.length=m.toNat*b:=by simp[d]
     refine⟨.slice (A ⟨w.heap.size,0,Z⟩) n.toNat m.toNat,_,_,?_,?_,L⟩
     ·have N:=wrap_i64 i (Int.le_trans ah ai);have O:=wrap_i64 (Int.le_trans i ah) ai;have V:¬(m<0\/281474976710656<(iz:Int)*m):=aa;have hzero:=Uq f.cells m.toNat aa;rw[d]at hzero;simp only[Instr.makeSlice,Sem.run_bind,run_underlying hu,Result.andThen_ok,asInt,asIntOf,Sem.run_pure,typeInfo,B,E,N,O,run_program];rw[if_neg al];simp only[Sem.run_bind,run_askRoom,Result.andThen_ok,run_sizeOf M];by_cases j:m.toNat*b=0
      ·simp only[j,if_true];have G:m.toNat=0:=by grind[Nat.mul_eq_zero]
       have v:Array.range 0= #[]:=rfl;simp[newRow,v,G]
      ·simp only[j,if_false,Sem.run_bind,S,Result.andThen_ok,Sem.run_pure,d,hzero];simp[newRow]
     ·refine bC.az (ρ:=ρ.dF H.next _) H.next 0 n.toNat (A m.toNat) ⟨w.heap.size,0,b,_⟩ _ m.toNat (Env.hD _ _ _) aa aW (λ_=>⟨aW,?_⟩)
      grind
   grind
  grind
 grind
def Ew(P:Program)(t:TypeId)(x:af):Option af:=
 match P.underlying t,x with
 |some (.slice _),.az _ _ _ _ (A k)=>A (.int .i64 k)
 |some (.slice _),.aq=>A (.int .i64 0)
 |_,_=>Z
theorem UI{t:TypeId}{x v:af}{b:Value}(ty:TypeId)(h:Ew P t x=A v)(aF:bC ρ x b)(w:World):∃r,(Builtin.cap_ #[t] ty #[b]).run P w= .ok r w/\bC ρ v r:=by
 unfold Ew at h;split at h
 ·rename_i e l i n esz k hu;cases aF with|az _ _ _ _ loc a c ar aL aA d=>
  obtain rfl:=aA k rfl;simp only[bE]at h;subst h;exact⟨_,by simp[Builtin.cap_,run_underlying hu,goInt],.int _ _⟩
 ·rename_i e hu;cases aF;simp only[bE]at h;subst h;exact⟨_,by simp[Builtin.cap_,run_underlying hu,goInt],.int _ _⟩
 grind
def SN(b:Nat):∀(xs a:List Value) (o:Nat) (w:World),w.setCells b o (xs++a)=(w.setCells b o xs).setCells b (o+xs.length) a
 |[],a,o,w=>by simp[World.setCells]
 |x::xs,a,o,w=>by
  simp only[List.cons_append,World.setCells];rw[SN b xs a,List.length_cons,show o+1+xs.length=o+(xs.length+1) by omega]
def q0(H:ae)(l:Nat)(cs:List af):Nat->Nat->Option ae
 |_,0=>A H
 |i,k+1=>match H.get l with
  |some (.row I esz els)=>(match els[i]? with
   |some e=>if cs.length=esz then(q0 (H.set l (.row I esz (els.set i (gl e 0 cs)))) l cs (i+1) k)else Z
   |none=>Z)
  |_=>Z
theorem LB{l:Nat}{loc:Loc}{cs:List af}{xs:List Value}(a:bZ ρ cs xs)(ah:∀v∈cs,v.one=J)(ar:ρ l=A loc)(hlen:cs.length=loc.esz):
  ∀(k i:Nat) (H H':ae) (w:World),Rel ρ H w->q0 H l cs i k=A H'->Step ρ H w ρ H' (w.setCells loc.block (loc.off+i*loc.esz) (List.replicate k xs).flatten)
 |0,i,H,H',w,b,h=>by
  grind[q0,World.setCells,Step.refl]
 |k+1,i,H,H',w,b,h=>by
  unfold q0 at h;split at h
  ·rename_i esz els aR;split at h
   ·rename_i e he;split at h
    ·rename_i aA;have s1:=Um b (ot:=none) aR ar he (c:=0) (cs:=cs) aa ah a;have s2:=LB a ah ar hlen k (i+1) _ H' _ s1.rel h;have d:=s1.trans s2;rw[List.replicate_succ,List.flatten_cons,SN,<-a.length,hlen,show loc.off+i*loc.esz+loc.esz=loc.off+(i+1)*loc.esz by grind];omega
    grind
   grind
  grind
theorem WW{l:Nat}{cs:List af}:∀{k i:Nat} {H H':ae},0<k->q0 H l cs i k=A H'->∃esz els,H.get l=A (.row I esz els)/\cs.length=esz
 |0,_,_,_,h,_=>aa
 |k+1,i,H,H',_,h=>by
  grind[q0]
def zl(P:Program)(H:ae)(ts:List TypeId)(x:af):Option ae:=
 match ts with
 |[t]=>(match P.underlying t with
  |some (.slice e)=>(match x with
   | .aq=>A H
   | .az l i n _ _=>if n=0 then A H else(match gb P e with
    |some z=>if z.cells.all af.one=J then q0 H l z.cells i n else Z
    |none=>Z)
   |_=>Z)
  |_=>Z)
 |_=>Z
theorem UJ(b:Rel ρ H w){ts:List TypeId}{x:af}{q:Value}{H':ae}(ty:TypeId)(h:zl P H ts x=A H')(aF:bC ρ x q):
  ∃p,(Builtin.clear_ ts.toArray ty #[q]).run P w= .ok (.tuple #[]) p/\Step ρ H w ρ H' p:=by
 unfold zl at h;split at h
 ·rename_i t;split at h
  ·rename_i e hu;split at h
   ·cases aF;simp only[bE]at h;subst h;exact⟨w,by simp[Builtin.clear_,run_underlying hu],Step.refl b⟩
   ·rename_i l i n esz cap;cases aF with|az _ _ _ _ loc a c ar aL aA r=>
    split at h
    ·rename_i f;subst f;simp only[bE]at h;subst h;exact⟨w,by simp[Builtin.clear_,run_underlying hu],Step.refl b⟩
    ·rename_i f;split at h
     ·rename_i z S;split at h
      ·rename_i K;have L:∀v∈z.cells,v.one=true:=List.all_eq_true.1 K;obtain⟨y,O,R⟩:=pz S w;have d:=(R ρ).cells;obtain⟨V,els,aR,ad⟩:=WW aa h;obtain⟨T,ao,aj,arr,t0,W,ab,g,ap⟩:=b.row _ _ _ _ aR;obtain rfl:loc=T:=al;have au:=g.1;have am:=g.2 rfl;have hlen:z.cells.length=loc.esz:=aa;have s:0<c:=aa;obtain⟨rfl,ak⟩:=r s;have o:=LB d L ar hlen n i H H' w b h;have Q:y.cells.toList.length=loc.esz:=by rw[<-d.length];omega
       have Y:((List.replicate n y.cells.toList).flatten).length=n*loc.esz:=by simp[Q]<;>rfl
       have an:∀j,j<n*loc.esz->loc.off+i*loc.esz+j<arr.size:=by
        intro j B;have ah:(i+c)*loc.esz=i*loc.esz+c*loc.esz:=Nat.add_mul _ _ _;have ai:n*loc.esz<=c*loc.esz:=Nat.mul_le_mul_right _ aL;omega
       have k:=run_storeCells_cells (P:=P) loc.block (loc.off+i*loc.esz) (List.replicate n y.cells.toList).flatten 0 w
        (by grind[World.cell?])
        (by grind[World.frozen?])
        (λu hu=>by
         obtain⟨l2,G,M⟩:=List.mem_flatten.1 hu;obtain rfl:=List.eq_of_mem_replicate G;obtain⟨j,B⟩:=List.getElem?_of_mem M;have E:j<z.cells.length:=by
          grind
         obtain⟨U,av,N⟩:=d.get j _ (List.getElem?_eq_getElem E);obtain rfl:u=U:=al;exact N.GC al)
       rw[<-JX]at k o;refine⟨_,?_,o⟩;cases n with
       |zero=>omega
       |succ m=>
        simp only[Builtin.clear_];simp[run_underlying hu,O];rw[k];simp
      grind
     grind
   grind
  grind
 grind
end
section
variable {P:Program}{ρ:Env}{H:ae}{w:World}
def pO(d:TypeDesc)(a b:af):Option Bool:=
 match d,a,b with
 | .int _,.int k x,.int c y=>if k=c then A (x==y)else Z
 | .string,.str x,.str y=>A (x==y)
 | .bool,.bool x,.bool y=>A (x==y)
 |_,_,_=>Z
def ow(d:TypeDesc)(k:af):List (af×af)->Nat->Option (Option (Nat×af))
 |[],_=>A Z
 |e::es,i=>match pO d k e.1 with
  |some J=>A (A (i,e.2))
  |some I=>ow d k es (i+1)
  |none=>Z
theorem NY{d:TypeDesc}{a b:af}{bY b':Value}{r:Bool}(h:pO d a b=A r)(c:bC ρ a bY)(e:bC ρ b b'):Instr.sameNow d bY b'=A r:=by
 unfold pO at h;split at h
 ·cases c;cases e;grind[Instr.sameNow]
 ·cases c;cases e;grind[Instr.sameNow,Jy]
 ·cases c;cases e;grind[Instr.sameNow]
 grind
inductive uO(ρ:Env):Option (Nat×af)->Option (Nat×Value)->Prop where
 |none:uO ρ none none
 |some (i:Nat) (v:af) (x:Value) (h:bC ρ v x):uO ρ (some (i,v)) (some (i,x))
theorem u0{d:TypeDesc}{k:af}{f:Value}(a:bC ρ k f):∀(es:List (af×af)) (ents:List MapEntry) (i:Nat) (r:Option (Nat×af)),ow d k es i=A r->
  bZ ρ (es.map (·.1)) (ents.map (·.key))->bZ ρ (es.map (·.2)) (ents.map (·.val))->∃dc,Instr.findNow d f ents i=A dc/\uO ρ r dc/\∀j v,r=A (j,v)->i<=j/\j<i+es.length/\∃e,es[j-i]? =A e/\pO d k e.1=A J
 |[],ents,i,r,h,ah,ai=>by
  simp[ow]at h;subst h;have:ents=[]:=by
   have:=ah.length;grind
  subst this;exact⟨Z,rfl,.none,λj v h=>by cases h⟩
 |e::es,[],i,r,h,ah,ai=>by have:=ah.length;grind
 |e::es,m::ents,i,r,h,ah,ai=>by
  simp only[List.map_cons]at ah ai;cases ah with|cons _ _ _ _ c l=>
  cases ai with|cons _ _ _ _ g n=>
  unfold ow at h;unfold Instr.findNow;split at h
  ·rename_i b;simp only[bE]at h;subst h;rw[NY b a c];exact⟨_,rfl,.some i _ _ g,al⟩
  ·rename_i b;rw[NY b a c];obtain⟨dc,ay,aM,o⟩:=u0 a es ents (i+1) r h l n;grind
  grind
def plainKey(d:TypeDesc):Bool:=
 match d with
 | .int _| .string| .bool=>J
 |_=>I
def zL{t:TypeId}{d:TypeDesc}(hu:P.underlying t=A d)(a:plainKey d=J)(empty:Bool)(v:Value)(n:Nat)(w:World):(Instr.checkKey empty (n+1) t v).run P w= .ok () w:=by
 unfold Instr.checkKey;simp only[Sem.run_bind,run_underlying hu,Result.andThen_ok];cases d<;>simp[plainKey]at a<;>rfl
def p4(P:Program)(d:TypeDesc)(k:af):Bool:=
 match d,k with
 | .array 2 e,.agg cs=>(match P.underlying e with|some (.int _)=>J|_=>I)&&(match cM P e with|some n=>(apart P e cs (0*n)).isSome&&(apart P e cs (1*n)).isSome|none=>I)
 |_,_=>I
theorem E5{t:TypeId}{d:TypeDesc}{k:af}{b:Value}(hu:P.underlying t=A d)(a:p4 P d k=J)(g:bC ρ k b)(empty:Bool)(n:Nat)(w:World):(Instr.checkKey empty (n+2) t b).run P w= .ok () w:=by
 unfold p4 at a;split at a
 ·rename_i e cs;simp only[Bool.and_eq_true]at a;obtain⟨ah,ai⟩:=a;split at ah
  ·rename_i i he;split at ai
   ·rename_i m hm;simp only[Bool.and_eq_true]at ai;obtain⟨a0,ay⟩:=Option.isSome_iff_exists.1 ai.1;obtain⟨h,aM⟩:=Option.isSome_iff_exists.1 ai.2;cases g with|agg _ xs aF=>
    obtain⟨j,c,_⟩:=py ay aF w;obtain⟨x1,f,_⟩:=py aM aF w;have aA:∀v:Value,(Instr.checkKey empty (n+1) e v).run P w= .ok () w:=λv=>zL he rfl empty v n w
    unfold Instr.checkKey;simp only[Sem.run_bind,run_underlying hu,Result.andThen_ok];rw[Std.Legacy.Range.forIn_eq_forIn_range'];simp only[Nat.zero_mul,Nat.one_mul]at c f;simp[List.range',run_sizeOf hm,c,f,aA]
   grind
  grind
 grind
def nC(P:Program)(a:TypeId)(k:af):List (af×af)->Nat->Option (Option (Nat×af))
 |[],_=>A Z
 |e::es,i=>match js P 10000 a k e.1 with
  |some J=>A (A (i,e.2))
  |some I=>nC P a k es (i+1)
  |none=>Z
theorem Kp{b:TypeId}{k:af}{a:Value}(c:bC ρ k a)(w:World):∀(es:List (af×af)) (ents:List MapEntry) (i:Nat) (r:Option (Nat×af)),nC P b k es i=A r->
  bZ ρ (es.map (·.1)) (ents.map (·.key))->bZ ρ (es.map (·.2)) (ents.map (·.val))->∃dc,(Instr.findAsking b a ents i).run P w= .ok dc w/\uO ρ r dc
 |[],ents,i,r,h,ah,ai=>by
  simp[nC]at h;subst h;have:ents=[]:=by
   have:=ah.length;grind
  subst this;exact⟨Z,rfl,.none⟩
 |e::es,[],i,r,h,ah,ai=>by have:=ah.length;grind
 |e::es,m::ents,i,r,h,ah,ai=>by
  simp only[List.map_cons]at ah ai;cases ah with|cons _ _ _ _ f j=>
  cases ai with|cons _ _ _ _ g l=>
  unfold nC at h;unfold Instr.findAsking;split at h
  ·rename_i d;simp only[bE]at h;subst h;have he:(Op.equal b a m.key).run P w= .ok J w:=vg (ρ:=ρ) w _ _ _ _ _ _ _ d c f;exact⟨_,by simp[he],.some i _ _ g⟩
  ·rename_i d;have he:(Op.equal b a m.key).run P w= .ok I w:=vg (ρ:=ρ) w _ _ _ _ _ _ _ d c f;obtain⟨dc,ay,aM⟩:=Kp c w es ents (i+1) r h j l;exact⟨dc,by simp[he,ay],aM⟩
  grind
def Zv{n:Nat}{e:TypeId}{a:Value}:∀(ents:List MapEntry) (i:Nat),Instr.findNow (.array n e) a ents i=match ents with|[]=>A Z|_=>Z
 |[],_=>rfl
 |m::_,i=>by cases a<;>rfl
theorem Fl{a:TypeId}{d:TypeDesc}{k:af}{b:Value}(hu:P.underlying a=A d)(f:p4 P d k=J)(c:bC ρ k b)(w:World){es:List (af×af)}{ents:List MapEntry}{r:Option (Nat×af)}(h:nC P a k es 0=A r)
  (ah:bZ ρ (es.map (·.1)) (ents.map (·.key))) (ai:bZ ρ (es.map (·.2)) (ents.map (·.val))):∃dc,(Instr.findKey a b ents).run P w= .ok dc w/\uO ρ r dc:=by
 obtain⟨n,e,rfl⟩:∃n e,d= .array n e:=by
  unfold p4 at f;grind
 obtain⟨dc,ay,aM⟩:=Kp (P:=P) c w es ents 0 r h ah ai;refine⟨dc,?_,aM⟩;unfold Instr.findKey;simp only[Sem.run_bind,run_underlying hu,Result.andThen_ok,Zv];cases ents with
 |nil=>exact ay
 |cons m ents=>omega
def mC(P:Program)(H:ae)(t:TypeId)(x k:af)(a:Bool):Option af:=
 match P.underlying t with
 |some (.map b c)=>
  (match P.underlying b,gb P c with
  |some d,A z=>
   if plainKey d=J then
    (match(match x with| .jC=>A []| .map l=>(match H.get l with|some (.map es)=>A es|_=>Z)|_=>Z)with
    |some es=>
     (match ow d k es 0 with
     |some (A (_,v))=>A (if a then .tuple [v,.bool J]else v)
     |some Z=>A (if a then .tuple [z,.bool I]else z)
     |none=>Z)
    |none=>Z)
   else if p4 P d k=J then
    (match(match x with| .jC=>A []| .map l=>(match H.get l with|some (.map es)=>A es|_=>Z)|_=>Z)with
    |some es=>
     (match nC P b k es 0 with
     |some (A (_,v))=>A (if a then .tuple [v,.bool J]else v)
     |some Z=>A (if a then .tuple [z,.bool I]else z)
     |none=>Z)
    |none=>Z)
   else Z
  |_,_=>Z)
 |_=>Z
theorem U4(K:Rel ρ H w){t:TypeId}{x k v:af}{s n:Value}{ok:Bool}(h:mC P H t x k ok=A v)(aF:bC ρ x s)(m:bC ρ k n):
  ∃r,(Instr.lookup t s n ok).run P w= .ok r w/\bC ρ v r:=by
 unfold mC at h;split at h
 ·rename_i N Q hu;split at h
  ·rename_i d z b L;split at h
   ·rename_i f;split at h
    ·rename_i es a;obtain⟨j,q,G⟩:=pz L w;have u:∃ents:Array MapEntry,bZ ρ (es.map (·.1)) (ents.toList.map (·.key))/\bZ ρ (es.map (·.2)) (ents.toList.map (·.val))/\
       ∀dc:Option (Nat×Value),Instr.findNow d n ents.toList 0=A dc->(Instr.lookup t s n ok).run P w=
       .ok (match dc with|some (_,v)=>(if ok then .tuple #[v,.bool J]else v)|none=>(if ok then .tuple #[j,.bool I]else j)) w:=by
      split at a
      ·cases aF;simp only[bE]at a;subst a;refine⟨#[],by simpa using bZ.nil,by simpa using bZ.nil,λdc g=> ?_⟩;unfold Instr.lookup;simp only[Sem.run_bind,run_underlying hu,Result.andThen_ok,Sem.run_pure];rw[zL b f];simp only[Result.andThen_ok,Instr.findKey,Sem.run_bind,run_underlying b,g,Sem.run_pure];cases dc with
       |none=>simp[q]
       |some p=>obtain⟨i,v⟩:=p;simp
      ·cases aF with|map l loc ar=>
       split at a
       ·rename_i es' aR;simp only[bE]at a;subst a;obtain⟨ents,clock,M,B,ah,ai⟩:=vj (P:=P) K aR ar;refine⟨ents,ah,ai,λdc g=> ?_⟩;unfold Instr.lookup;simp only[Sem.run_bind,run_underlying hu,Result.andThen_ok,Sem.run_pure,B];rw[zL b f];simp only[Result.andThen_ok,Instr.findKey,Sem.run_bind,run_underlying b,g,Sem.run_pure];cases dc with
        |none=>simp[q]
        |some p=>obtain⟨i,v⟩:=p;simp
       grind
      grind
     obtain⟨ents,ah,ai,o⟩:=u;split at h
     ·rename_i i O aB;simp only[bE]at h;subst h;obtain⟨dc,c,e,_⟩:=u0 m es ents.toList 0 _ aB ah ai;cases e with|some _ _ y E=>
      refine⟨_,o _ c,?_⟩;cases ok
      ·grind
      ·exact .tuple _ [y,.bool J] (.cons _ _ _ _ E (.cons _ _ _ _ (.bool _) .nil))
     ·rename_i aB;simp only[bE]at h;subst h;obtain⟨dc,c,e,_⟩:=u0 m es ents.toList 0 _ aB ah ai;cases e;refine⟨_,o _ c,?_⟩;cases ok
      ·grind
      ·exact .tuple _ [j,.bool I] (.cons _ _ _ _ (G ρ) (.cons _ _ _ _ (.bool _) .nil))
     grind
    grind
   ·split at h
    ·rename_i f;split at h
     ·rename_i es a;obtain⟨j,q,G⟩:=pz L w;have u:∃ents:Array MapEntry,bZ ρ (es.map (·.1)) (ents.toList.map (·.key))/\bZ ρ (es.map (·.2)) (ents.toList.map (·.val))/\
        ∀dc:Option (Nat×Value),(Instr.findKey N n ents.toList).run P w= .ok dc w->(Instr.lookup t s n ok).run P w=
        .ok (match dc with|some (_,v)=>(if ok then .tuple #[v,.bool J]else v)|none=>(if ok then .tuple #[j,.bool I]else j)) w:=by
       split at a
       ·cases aF;simp only[bE]at a;subst a;refine⟨#[],by simpa using bZ.nil,by simpa using bZ.nil,λdc g=> ?_⟩;unfold Instr.lookup;simp only[Sem.run_bind,run_underlying hu,Result.andThen_ok,Sem.run_pure];rw[E5 b f m];simp only[Result.andThen_ok,g];cases dc with
        |none=>simp[q]
        |some p=>obtain⟨i,v⟩:=p;simp
       ·cases aF with|map l loc ar=>
        split at a
        ·rename_i es' aR;simp only[bE]at a;subst a;obtain⟨ents,clock,M,B,ah,ai⟩:=vj (P:=P) K aR ar;refine⟨ents,ah,ai,λdc g=> ?_⟩;unfold Instr.lookup;simp only[Sem.run_bind,run_underlying hu,Result.andThen_ok,Sem.run_pure,B];rw[E5 b f m];simp only[Result.andThen_ok,g];cases dc with
         |none=>simp[q]
         |some p=>obtain⟨i,v⟩:=p;simp
        grind
       grind
      obtain⟨ents,ah,ai,o⟩:=u;split at h
      ·rename_i i O aB;simp only[bE]at h;subst h;obtain⟨dc,c,e⟩:=Fl b f m w aB ah ai;cases e with|some _ _ y E=>
       refine⟨_,o _ c,?_⟩;cases ok
       ·grind
       ·exact .tuple _ [y,.bool J] (.cons _ _ _ _ E (.cons _ _ _ _ (.bool _) .nil))
      ·rename_i aB;simp only[bE]at h;subst h;obtain⟨dc,c,e⟩:=Fl b f m w aB ah ai;cases e;refine⟨_,o _ c,?_⟩;cases ok
       ·grind
       ·exact .tuple _ [j,.bool I] (.cons _ _ _ _ (G ρ) (.cons _ _ _ _ (.bool _) .nil))
      grind
     grind
    grind
  grind
 grind
def EG(H:ae):af×ae:=(.map H.next,H.push (.map []))
def U5(c:Rel ρ H w)(aB:ρ H.next=Z)(t:TypeId):∃r a b,(Instr.makeMap t Z).run P w= .ok r a/\bC b (EG H).1 r/\Step ρ H w b (EG H).2 a:=by
 have d:=Qz c aB (.map []) rfl rfl (.map #[] 0) ⟨w.heap.size,0,0,0⟩ rfl (λ_ _ _ h=>by cases h) (λes h=>by
  simp only[bA.map.injEq]at h;subst h;exact⟨#[],0,heap_alloc_new _ _,by simpa using bZ.nil,by simpa using bZ.nil⟩) (λ_ _ _ h=>by cases h)
 refine⟨.map (A w.heap.size),_,_,?_,.map H.next ⟨w.heap.size,0,0,0⟩ (Env.hD _ _ _),d⟩;simp[Instr.makeMap]
theorem Jn(g:Rel ρ H w){l:Nat}{es es':List (af×af)}(aR:H.get l=A (.map es)){loc:Loc}(ar:ρ l=A loc){ents:Array MapEntry}{clock:Nat}
  (ah:bZ ρ (es'.map (·.1)) (ents.toList.map (·.key))) (ai:bZ ρ (es'.map (·.2)) (ents.toList.map (·.val))):
  Step ρ H w ρ (H.set l (.map es')) {w with heap:=w.heap.setIfInBounds loc.block (.map ents clock)}:=by
 have G:=ae.bm aR;obtain⟨c,d,S,R,B,_,_⟩:=g.map _ _ aR;obtain rfl:loc=c:=al;have U:=z6 B;have j:∀k,k≠loc.block->({w with heap:=w.heap.setIfInBounds loc.block (.map ents clock)}:World).heap[k]? =w.heap[k]? :=al;have i:∀a c,H.live a->a≠l->ρ a=A c->c.block≠loc.block:=λa c h cD e heq=>
  g.apart l a loc c (.inr (.inl ⟨_,aR⟩)) h aa ar e heq.symm
 have r:∀a,(H.set l (.map es')).rw a->H.rw a:=by
  grind[ae.rw,ae.b_]
 have E:∀a,(H.set l (.map es')).live a->H.live a:=by
  grind[ae.live,ae.b_]
 have p:∀b,b<w.heap.size->¬e5 ρ H b->({w with heap:=w.heap.setIfInBounds loc.block (.map ents clock)}:World).heap[b]? =w.heap[b]? :=by
  intro b _ K;refine j b ?_;rintro rfl;exact K ⟨l,loc,.inr (.inl ⟨_,aR⟩),ar,rfl⟩
 have q:∀b,e5 ρ (H.set l (.map es')) b->e5 ρ H b\/w.heap.size<=b:=by
  rintro b ⟨a,c,ah,ai,ay⟩;exact .inl ⟨a,c,r _ ah,ai,ay⟩
 refine⟨ρ.le_refl,ds _,λ_ _=>rfl,⟨?_,?_,?_,?_,?_⟩,rfl,rfl,rfl,aW,p,q,ae.G4 rfl,.same (ae.AI rfl)⟩
 ·intro a V o n h;by_cases f:l=a
  ·grind[ae.cO]
  ·rw[ae.b_ f]at h;obtain⟨c,d,O,t,s,z,P,m,Q⟩:=g.row _ _ _ _ h;exact⟨c,d,O,t,s,z,al,m,Q⟩
 ·intro a T h;by_cases f:l=a
  ·subst f;rw[ae.cO G]at h;simp only[bE,bA.map.injEq]at h;subst h;refine⟨loc,ar,ents,clock,?_,ah,ai⟩;grind
  ·rw[ae.b_ f]at h;obtain⟨c,d,y,u,P,m⟩:=g.map _ _ h;exact⟨c,d,y,u,by rw[j _ (i a c (.inr (.inl ⟨_,h⟩)) aa d)];omega,m⟩
 ·intro a s o n h;by_cases f:l=a
  ·grind[ae.cO]
  ·rw[ae.b_ f]at h;obtain⟨c,d,au⟩:=g.ee _ _ _ _ h;exact⟨c,d,au.frame ρ.le_refl (j _ (i a c (.inr (.inr ⟨_,_,_,h⟩)) aa d))⟩
 ·intro L l2 M N ah ai i v x;exact g.apart L l2 M N (r _ ah) (E _ ai) i v x
 ·intro a W o n h;by_cases f:l=a
  ·grind[ae.cO]
  ·rw[ae.b_ f]at h;exact(g.old _ _ _ _ h).step ρ.le_refl aW p q
def jU(P:Program)(H:ae)(t:TypeId)(m k v:af):Option ae:=
 match P.underlying t,m with
 |some (.map a _),.map l=>
  (match P.underlying a,H.get l with
  |some d,A (.map es)=>
   if plainKey d=J then
    (match ow d k es 0 with
    |some (A (i,_))=>A (H.set l (.map (es.set i (k,v))))
    |some Z=>A (H.set l (.map (es++[(k,v)])))
    |none=>Z)
   else if p4 P d k=J then
    (match nC P a k es 0 with
    |some Z=>A (H.set l (.map (es++[(k,v)])))
    |_=>Z)
   else Z
  |_,_=>Z)
 |_,_=>Z
theorem aht{d:TypeDesc}{a b:af}{bY b':Value}(h:pO d a b=A J)(c:bC ρ a bY)(e:bC ρ b b')(n:Nat):Instr.sameBits (n+1) b' bY=true:=by
 unfold pO at h;split at h
 ·cases c;cases e;grind[Instr.sameBits]
 ·cases c;cases e;grind[Instr.sameBits,Jy]
 ·cases c;cases e;grind[Instr.sameBits]
 grind
def acy(es:List (af×af))(i:Nat)(k v:af):(es.set i (k,v)).map (·.1)=(es.map (·.1)).set i k:=by simp[List.map_set]
def acz(es:List (af×af))(i:Nat)(k v:af):(es.set i (k,v)).map (·.2)=(es.map (·.2)).set i v:=by simp[List.map_set]
theorem Kt(g:Rel ρ H w){t:TypeId}{m k v:af}{gi a b:Value}{H':ae}(h:jU P H t m k v=A H')(hm:bC ρ m gi)(c:bC ρ k a)(q:bC ρ v b):
  ∃x,(Instr.mapUpdate t gi a b).run P w= .ok () x/\Step ρ H w ρ H' x:=by
 unfold jU at h;split at h
 ·rename_i T L l hu;cases hm with|map _ loc ar=>
  split at h
  ·rename_i d es j aR;split at h
   ·rename_i p;obtain⟨ents,clock,z,n,ah,ai⟩:=vj (P:=P) g aR ar;have K:∀o:Obj,(setObj loc.block o).run P w= .ok () {w with heap:=w.heap.setIfInBounds loc.block o}:=(by grind[setObj,Sem.run]);have Q:∀dc,Instr.findNow d a ents.toList 0=A dc->(Instr.mapUpdate t (.map (A loc.block)) a b).run P w=
      (match dc with
       |some (i,_)=>(do
        let key<-Instr.keyThatStays (((ents[i]?).map (·.key)).getD a) a
        setObj loc.block (.map (ents.modify i λe=>{e with key,val:=b}) clock):Sem Unit).run P w
       |none=>(setObj loc.block (.map (ents.push {key:=a,val:=b,born:=clock}) (clock+1))).run P w):=by
     intro dc E;unfold Instr.mapUpdate;simp only[Sem.run_bind,run_underlying hu,Result.andThen_ok,n];rw[zL j p];simp only[Result.andThen_ok,Instr.findKey,Sem.run_bind,run_underlying j,E,Sem.run_pure];grind[Sem.run_bind]
    split at h
    ·rename_i i v0 aB;simp only[bE]at h;subst h;obtain⟨dc,r,f,s⟩:=u0 c es ents.toList 0 _ aB ah ai;cases f with|some _ _ y S=>
     obtain⟨_,aP,e,he,G⟩:=s i v0 rfl;simp only[Nat.sub_zero,Nat.zero_add]at he aP;have hlen:=ah.length;simp only[List.length_map,Array.length_toList]at hlen;have M:i<ents.size:=aa;obtain⟨u,N,B⟩:=ah.get i e.1 al;have O:ents[i].key=u:=al;have R:(Instr.keyThatStays (((ents[i]?).map (·.key)).getD a) a).run P w= .ok a w:=by
      unfold Instr.keyThatStays;have:((ents[i]?).map (·.key)).getD a=u:=al;rw[this,if_pos (aht G c B 9999)];rfl
     refine⟨_,?_,Jn g aR ar (es':=es.set i (k,v)) (ents:=ents.modify i λe=>{e with key:=a,val:=b}) (clock:=clock) ?_ ?_⟩
     ·grind[Sem.run_bind,Result.andThen_ok]
     ·rw[acy];have:(ents.modify i λe=>{e with key:=a,val:=b}).toList.map (·.key)=(ents.toList.map (·.key)).set i a:=by
       apply List.ext_getElem?;grind
      rw[this];exact ah.set c i
     ·rw[acz];have:(ents.modify i λe=>{e with key:=a,val:=b}).toList.map (·.val)=(ents.toList.map (·.val)).set i b:=by
       apply List.ext_getElem?;grind
      rw[this];exact ai.set q i
    ·rename_i aB;simp only[bE]at h;subst h;obtain⟨dc,r,f,s⟩:=u0 c es ents.toList 0 _ aB ah ai;cases f;refine⟨_,?_,Jn g aR ar (es':=es++[(k,v)]) (ents:=ents.push {key:=a,val:=b,born:=clock}) (clock:=clock+1) ?_ ?_⟩
     ·grind
     ·simpa using ah.append (.cons _ _ _ _ c .nil)
     ·simpa using ai.append (.cons _ _ _ _ q .nil)
    grind
   ·split at h
    ·rename_i p;obtain⟨ents,clock,z,n,ah,ai⟩:=vj (P:=P) g aR ar;have K:∀o:Obj,(setObj loc.block o).run P w= .ok () {w with heap:=w.heap.setIfInBounds loc.block o}:=(by grind[setObj,Sem.run]);split at h
     ·rename_i aB;simp only[bE]at h;subst h;obtain⟨dc,r,f⟩:=Fl j p c w aB ah ai;cases f;refine⟨_,?_,Jn g aR ar (es':=es++[(k,v)]) (ents:=ents.push {key:=a,val:=b,born:=clock}) (clock:=clock+1) ?_ ?_⟩
      ·unfold Instr.mapUpdate;simp only[Sem.run_bind,run_underlying hu,Result.andThen_ok,n];grind[E5,Result.andThen_ok]
      ·simpa using ah.append (.cons _ _ _ _ c .nil)
      ·simpa using ai.append (.cons _ _ _ _ q .nil)
     grind
    grind
  grind
 grind
end
structure bg where
 t:bJ af
 size:Nat
def bg.get(R:bg)(d:Nat):af:=match R.t.get d with
 |some v=>v
 |none=> .tuple []
def bg.put(R:bg)(dst:Option Nat)(v:af):Option bg:=match dst with
 |none=>A R
 |some d=>if d<R.size then A {R with t:=bJ.put v (d+1) R.t d}else Z
structure e1(ρ:Env)(R:bg)(a:Act):Prop where
 size:R.size=a.tmps.size
 get:∀d,bC ρ (R.get d) (a.tmps.getD d undef)
 none:a.defers=[]
def e1.mono{ρ b:Env}{R:bg}{a:Act}(h:e1 ρ R a)(hle:ρ.le b):e1 b R a:=⟨h.size,λd=>(h.get d).mono hle,h.none⟩
theorem bg.s9{R bk:bg}{dst:Option Nat}{v:af}(h:R.put dst v=A bk)(d:Nat):bk.get d=if dst=A d then v else R.get d:=by
 cases dst with
 |none=>grind[bg.put]
 |some e=>
  grind[bg.put,bg.get,bJ.vk,bJ.s_]
theorem bg.size_put{R bk:bg}{dst:Option Nat}{v:af}(h:R.put dst v=A bk):bk.size=R.size:=by
 cases dst with
 |none=>grind[bg.put]
 |some e=>
  grind[bg.put]
def bg.QD{R bk:bg}{d:Nat}{v:af}(h:R.put (A d) v=A bk):d<R.size:=by
 grind[bg.put]
theorem e1.put{ρ:Env}{R bk:bg}{a:Act}{dst:Option Nat}{v:af}{x:Value}(h:e1 ρ R a)(b:R.put dst v=A bk)(f:bC ρ v x):e1 ρ bk (a.put dst x):=by
 refine⟨?_,λd=> ?_,?_⟩
 ·rw[bg.size_put b,h.size];cases dst<;>simp[Act.put]
 ·rw[bg.s9 b];cases dst with
  |none=>simpa [Act.put]using h.get d
  |some e=>
   have c:=bg.QD b;rw[h.size]at c;by_cases he:e=d
   ·subst he;simpa [Act.put,c]using f
   ·have:=h.get d;simp only[bE,he,if_false,Act.put,Array.getD_eq_getD_getElem?,Array.getElem?_setIfInBounds];simpa using this
 ·cases dst<;>simpa [Act.put]using h.none
def cx(R:bg):Operand->Option af
 | .tmp t=>A (R.get t)
 | .const v=>vF v
 | .global _=>Z
 | .func f=>A (.func (.func f) [] [])
section
variable {P:Program}{ρ:Env}{H:ae}{w:World}{R:bg}{a:Act}
def eE(au:e1 ρ R a){x:Operand}{v:af}(h:cx R x=A v):bC ρ v (a.eval x):=by
 cases x with
 |tmp t=>simp only[cx,bE]at h;subst h;exact au.get t
 |const c=>exact AG h ρ
 |global g=>cases h
 |func f=>simp only[cx,bE]at h;subst h;exact .func (.func f) [] [] [] [] .nil .nil
def jf(R:bg):List Operand->Option (List af)
 |[]=>A []
 |x::xs=>match cx R x,jf R xs with
  |some v,A ak=>A (v::ak)
  |_,_=>Z
theorem qW(au:e1 ρ R a):∀{xs:List Operand} {ak:List af},jf R xs=A ak->bZ ρ ak (xs.map a.eval)
 |[],ak,h=>by simp only[jf,bE]at h;subst h;exact .nil
 |x::xs,ak,h=>by
  simp only[jf]at h;split at h
  ·rename_i v d b c;simp only[bE]at h;subst h;exact .cons _ _ _ _ (eE au b) (qW au c)
  grind
def lf(R:bg):List (Nat×Operand)->Option (List (Nat×af))
 |[]=>A []
 |(i,x)::xs=>match cx R x,lf R xs with
  |some v,A ak=>A ((i,v)::ak)
  |_,_=>Z
theorem EM(au:e1 ρ R a):∀{xs:List (Nat×Operand)} {ak:List (Nat×af)},lf R xs=A ak->sr ρ ak (xs.map λ(i,x)=>(i,a.eval x))
 |[],ak,h=>by simp only[lf,bE]at h;subst h;exact trivial
 |(i,x)::xs,ak,h=>by
  simp only[lf]at h;split at h
  ·rename_i v d b c;simp only[bE]at h;subst h;exact⟨rfl,eE au b,EM au c⟩
  grind
def mE(R:bg):Option Operand->Option (Option af)
 |none=>A Z
 |some x=>match cx R x with
  |some v=>A (A v)
  |none=>Z
theorem EU(au:e1 ρ R a){x:Option Operand}{v:Option af}(h:mE R x=A v):sq ρ v (x.map a.eval):=by
 cases x with
 |none=>simp only[mE,bE]at h;subst h;exact .none
 |some x=>
  simp only[mE]at h;split at h
  ·rename_i u hu;simp only[bE]at h;subst h;exact .some _ _ (eE au hu)
  grind
def dS:af->Option af
 | .ptr l i c=>A (.ptr l i c)
 | .iface t v=>A (.iface t v)
 | .func (.func f) x y=>A (.func (.func f) x y)
 |_=>Z
def ox(P:Program)(t:TypeId)(v:af):Option af:=
 match P.underlying t with
 |some (.interface _)=>Z
 |some _=>A (.iface t v)
 |none=>Z
def bD(P:Program)(H:ae)(b:Builtin)(ts:List TypeId)(ak:List af):Option af:=
 match b,ts,ak with
 | .len,[t],[x]=>u1 P H t x
 | .max,_,[x,y]=>EH x y
 | .min,_,[x,y]=>EI x y
 | .cap,[t],[x]=>Ew P t x
 |_,_,_=>Z
def sD(P:Program)(t:TypeId)(ok:Bool)(v:af):Option af:=
 match v with
 | .iface d u=>if d=t/\ok=I then(match P.underlying t with|some (.interface _)=>Z|some _=>A u|none=>Z)else Z
 |_=>Z
def jV(P:Program)(o:Op)(R:bg):Option af:=
 match o with
 | .move x=>cx R x
 | .assign x=>cx R x
 | .pick c a b=>match cx R c with
  |some (.bool t)=>if t then cx R a else cx R b
  |_=>Z
 | .build t dt=>(lf R dt.toList).bind (ey P t)
 | .nilCheck x=>(cx R x).bind dS
 | .binOp op t x y _=>(cx R x).bind λu=>(cx R y).bind λv=>uU P op t x y u v
 | .unOp op _ x=>(cx R x).bind (jX op)
 | .convert s d x=>(cx R x).bind (sF P s d)
 | .makeInterface t x=>(cx R x).bind (ox P t)
 | .makeFunc fn f c=>(jf R f.toList).bind λfs=>(jf R c.toList).bind λcs=>A (.func fn fs cs)
 | .slice t x gr aP e=>(cx R x).bind λv=>(mE R gr).bind λl=>(mE R aP).bind λh=>(mE R e).bind λm=>gI P t v l h m
 | .fieldAddr t x f=>(cx R x).bind λv=>bP P t v f
 | .field t x f=>(cx R x).bind λv=>pw P t v f
 | .indexAddr t x i=>(cx R x).bind λu=>(cx R i).bind λv=>ct P t u v
 | .index t x i=>(cx R x).bind λu=>(cx R i).bind λv=>qS P t u v
 | .extract x i=>(cx R x).bind λv=>jd v i
 | .typeAssert x _ t ok=>(cx R x).bind (sD P t ok)
 | .call c=>match c.callee with
  | .builtin b=>(jf R c.args.toList).bind (bD P .empty b c.argTypes.toList)
  |_=>Z
 |_=>Z
theorem hc{s:Sem Value}{x:Value}{w a:World}(h:s.run P w= .ok x a):(do pure (.value (<-s)):Sem Next).run P w= .ok (.value x) a:=by
 simp[h]
theorem G8{s:Sem Unit}{w a:World}(h:s.run P w= .ok () a):(do s;pure .skip:Sem Next).run P w= .ok .skip a:=by
 simp[h]
theorem Rel.empty(ρ:Env)(w:World)(n:Nat):Rel ρ ⟨.leaf,n⟩ w:=by
 have:∀l,(⟨.leaf,n⟩:ae).get l=none:=(by grind[ae.get,bJ.s8]);refine⟨λl _ _ _ h=> ?_,λl _ h=> ?_,λl _ _ _ h=> ?_,λl a _ _ h=> ?_,λl _ _ _ h=> ?_⟩
 ·grind
 ·grind
 ·grind
 ·rcases h with⟨_,_,h⟩|⟨_,h⟩|⟨_,_,_,h⟩<;>(rw[this]at h;cases h)
 grind
theorem Kj(e:Rel ρ H w){b:Builtin}{ts:List TypeId}{ak:List af}{v:af}{xs:List Value}(h:bD P H b ts ak=A v)(d:bZ ρ ak xs)(ty:TypeId)(cs:Array Bool):
  ∃x,(builtin b ts.toArray ty cs xs.toArray).run P w= .ok (.value x) w/\bC ρ v x:=by
 unfold bD at h;split at h
 ·cases d with|cons _ x _ _ ah ai=>
  cases ai;obtain⟨r,a,c⟩:=U0 e ty h ah;exact⟨r,hc a,c⟩
 ·cases d with|cons _ x _ _ ah ai=>
  cases ai with|cons _ y _ _ ay aM=>
  cases aM;obtain⟨r,a,c⟩:=U8 (P:=P) ts.toArray ty h ah ay w;exact⟨r,hc a,c⟩
 ·cases d with|cons _ x _ _ ah ai=>
  cases ai with|cons _ y _ _ ay aM=>
  cases aM;obtain⟨r,a,c⟩:=U_ (P:=P) ts.toArray ty h ah ay w;exact⟨r,hc a,c⟩
 ·cases d with|cons _ x _ _ ah ai=>
  cases ai;obtain⟨r,a,c⟩:=UI (P:=P) ty h ah w;exact⟨r,hc a,c⟩
 grind
theorem map_toArray{α β:Type}(f:α->β)(xs:Array α):xs.map f=(xs.toList.map f).toArray:=al
def A2{o:Oper}{c:Call}{b:Builtin}(aX:o.op= .call c)(aA:c.callee= .builtin b)(w:World):
  (execOp a.eval o).run P w=(builtin b c.argTypes o.type (c.args.map λ | .const _=>J|_=>I) (c.args.map a.eval)).run P w:=by
 unfold execOp;rw[aX];simp only[resolve,aA];rfl
theorem Vt{o:Oper}{v:af}(h:jV P o.op R=A v)(au:e1 ρ R a)(w:World):∃x,(execOp a.eval o).run P w= .ok (.value x) w/\bC ρ v x:=by
 unfold jV at h;split at h
 ·rename_i x aX;exact⟨_,by unfold execOp;rw[aX];rfl,eE au h⟩
 ·rename_i x aX;exact⟨_,by unfold execOp;rw[aX];rfl,eE au h⟩
 ·rename_i c x y aX;split at h
  ·rename_i t a_;have ah:=eE au a_;have ai:a.eval c= .bool t:=by
    generalize a.eval c=z at ah;cases ah;rfl
   cases t
   ·exact⟨_,by unfold execOp;rw[aX];simp only[ai];rfl,eE au h⟩
   ·exact⟨_,by unfold execOp;rw[aX];simp only[ai];rfl,eE au h⟩
  grind
 ·rename_i t dt aX;simp only[e4]at h;obtain⟨ak,ah,ai⟩:=h;obtain⟨x,g,e⟩:=UF ai (EM au ah) w;grind[execOp,map_toArray,hc]
 ·rename_i x aX;simp only[e4]at h;obtain⟨u,ah,ai⟩:=h;have ay:=eE au ah;refine⟨a.eval x,?_,?_⟩
  ·unfold execOp;rw[aX];simp only
   generalize a.eval x=z at ay;unfold dS at ai;split at ai
   ·cases ay;rfl
   ·cases ay;rfl
   ·cases ay;rfl
   grind
  ·unfold dS at ai;grind
 ·rename_i op t x y H aX;simp only[e4]at h;obtain⟨u,ah,z,ai,ay⟩:=h;obtain⟨r,g,e⟩:=UC ay (eE au ah) (eE au ai) w;grind[execOp,hc]
 ·rename_i op t x aX;simp only[e4]at h;obtain⟨u,ah,ay⟩:=h;obtain⟨r,g,e⟩:=VF ay (eE au ah) w;exact⟨r,by unfold execOp;rw[aX];exact hc g,e⟩
 ·rename_i s d x aX;simp only[e4]at h;obtain⟨u,ah,ay⟩:=h;obtain⟨r,g,e⟩:=UK ay (eE au ah) w;grind[execOp,hc]
 ·rename_i t x aX;simp only[e4]at h;obtain⟨u,ah,ay⟩:=h;have aM:=eE au ah;unfold ox at ay;split at ay
  ·grind
  ·rename_i d n hu;simp only[bE]at ay;subst ay;refine⟨.iface t (a.eval x),?_,.iface _ _ _ aM⟩;unfold execOp;rw[aX];refine hc ?_;unfold Instr.makeInterface;simp only[Sem.run_bind,run_underlying hu,Result.andThen_ok];cases d<;>first|rfl|exact absurd rfl (n _)
  grind
 ·rename_i fn f c aX;simp only[e4,bE]at h;obtain⟨fs,ah,cs,ai,rfl⟩:=h;refine⟨_,?_,.func fn fs cs _ _ (qW au ah) (qW au ai)⟩;unfold execOp;rw[aX];rw[<-map_toArray,<-map_toArray];rfl
 ·rename_i t x gr aP B aX;simp only[e4]at h;obtain⟨u,ah,l,ai,k,ay,m,aM,j⟩:=h;obtain⟨r,g,e⟩:=VC j (eE au ah) (EU au ai) (EU au ay) (EU au aM) w;grind[execOp,hc]
 ·rename_i t x f aX;simp only[e4]at h;obtain⟨u,ah,ay⟩:=h;obtain⟨r,g,e⟩:=UU ay (eE au ah) w;grind[execOp,hc]
 ·rename_i t x f aX;simp only[e4]at h;obtain⟨u,ah,ay⟩:=h;obtain⟨r,g,e⟩:=UW ay (eE au ah) w;grind[execOp,hc]
 ·rename_i t x i aX;simp only[e4]at h;obtain⟨u,ah,z,ai,ay⟩:=h;obtain⟨r,g,e⟩:=UY ay (eE au ah) (eE au ai) w;grind[execOp,hc]
 ·rename_i t x i aX;simp only[e4]at h;obtain⟨u,ah,z,ai,ay⟩:=h;obtain⟨r,g,e⟩:=UZ ay (eE au ah) (eE au ai) w;grind[execOp,hc]
 ·rename_i x i aX;simp only[e4]at h;obtain⟨u,ah,ay⟩:=h;obtain⟨r,g,e⟩:=UT ay (eE au ah) w;exact⟨r,by unfold execOp;rw[aX];exact hc g,e⟩
 ·rename_i x G t ok aX;simp only[e4]at h;obtain⟨u,ah,ay⟩:=h;have aM:=eE au ah;unfold sD at ay;split at ay
  ·rename_i d E;split at ay
   ·rename_i aA;obtain⟨rfl,rfl⟩:=aA;generalize he:a.eval x=z at aM;cases aM with|iface _ _ q j=>
    split at ay
    ·grind
    ·rename_i p n hu;simp only[bE]at ay;subst ay;refine⟨q,?_,j⟩;unfold execOp;rw[aX];refine hc ?_;rw[he];unfold Instr.typeAssert;simp only[Sem.run_bind,run_underlying hu,Result.andThen_ok];cases p<;>first|exact absurd rfl (n _)|simp
    grind
   grind
  grind
 ·rename_i c aX;split at h
  ·rename_i b aA;simp only[e4]at h;obtain⟨ak,ah,ai⟩:=h;obtain⟨x,g,e⟩:=Kj (Rel.empty ρ w 0) ai (qW au ah) o.type (c.args.map λ | .const _=>J|_=>I);refine⟨x,?_,e⟩;rw[A2 aX aA,map_toArray a.eval];omega
  grind
 grind
def iN(P:Program)(o:Op)(R:bg)(H:ae):Option af:=
 match o with
 | .load t x=>(cx R x).bind (aJ P H t)
 | .lookup t x k ok=>(cx R x).bind λu=>(cx R k).bind λv=>mC P H t u v ok
 | .convert s d x=>(cx R x).bind (uW P H s d)
 | .call c=>match c.callee with
  | .builtin b=>(jf R c.args.toList).bind (bD P H b c.argTypes.toList)
  |_=>Z
 |_=>Z
theorem Vx(f:Rel ρ H w){o:Oper}{v:af}(h:iN P o.op R H=A v)(au:e1 ρ R a):∃x,(execOp a.eval o).run P w= .ok (.value x) w/\bC ρ v x:=by
 unfold iN at h;split at h
 ·rename_i t x aX;simp only[e4]at h;obtain⟨u,ah,ay⟩:=h;obtain⟨r,g,e⟩:=EE f ay (eE au ah);grind[execOp,hc]
 ·rename_i t x k ok aX;simp only[e4]at h;obtain⟨u,ah,z,ai,ay⟩:=h;obtain⟨r,g,e⟩:=U4 f ay (eE au ah) (eE au ai);grind[execOp,hc]
 ·rename_i s d x aX;simp only[e4]at h;obtain⟨u,ah,ay⟩:=h;obtain⟨r,g,e⟩:=UG f ay (eE au ah);grind[execOp,hc]
 ·rename_i c aX;split at h
  ·rename_i b aA;simp only[e4]at h;obtain⟨ak,ah,ai⟩:=h;obtain⟨x,g,e⟩:=Kj f ai (qW au ah) o.type (c.args.map λ | .const _=>J|_=>I);refine⟨x,?_,e⟩;rw[A2 aX aA,map_toArray a.eval];omega
  grind
 grind
def qT(P:Program)(o:Op)(R:bg)(H:ae):Option (af×ae):=
 match o with
 | .alloc t=>zk P H t
 | .box t x=>(cx R x).bind (sE (lz P t) H)
 | .buildSlice t n dt=>(lf R dt.toList).bind (uV P H t n)
 | .makeMap _ Z=>A (EG H)
 | .makeSlice t l c=>(cx R l).bind λu=>(cx R c).bind λv=>h0 P H t u v
 |_=>Z
theorem Vc(e:Rel ρ H w)(aB:ρ H.next=Z){o:Oper}{v:af}{H':ae}(h:qT P o.op R H=A (v,H'))(au:e1 ρ R a):
  ∃x b d,(execOp a.eval o).run P w= .ok (.value x) b/\bC d v x/\Step ρ H w d H' b:=by
 unfold qT at h;split at h
 ·grind[UA,execOp,hc]
 ·rename_i t x aX;simp only[e4]at h;obtain⟨u,ah,ay⟩:=h;obtain⟨r,b,d,f,g,i⟩:=Ki (P:=P) e aB ay (eE au ah) t (λj h=>PK h);grind[execOp,hc]
 ·rename_i t n dt aX;simp only[e4]at h;obtain⟨u,ah,ay⟩:=h;obtain⟨r,b,d,f,g,i⟩:=UD e aB ay (EM au ah);grind[execOp,map_toArray,hc]
 ·rename_i t aX;simp only[bE]at h;obtain⟨r,b,d,f,g,i⟩:=U5 (P:=P) e aB t;grind[execOp,hc]
 ·rename_i t l c aX;simp only[e4]at h;obtain⟨u,ah,z,ai,ay⟩:=h;obtain⟨r,b,d,f,g,i⟩:=U7 e aB ay (eE au ah) (eE au ai);grind[execOp,hc]
 grind
def bA.iR:bA->Bool
 | .row I _ _=>J
 | .map _=>J
 | .ee _ _ _=>J
 |_=>I
def bA.iR.ro{b:bA}(h:b.iR=J):b.vn=false:=by
 cases b with
 |row ro e s=>cases ro<;>first|rfl|cases h
 |map es=>rfl
 |ee t e s=>rfl
 |dead=>rfl
 |old=>rfl
def bA.iR.old{b:bA}(h:b.iR=J):b.ri=false:=by cases b<;>first|rfl|cases h
def g5(r:Option (af×ae))(l:Nat):Option (af×bA):=
 match r with
 |some (v,H')=>if H'.next=l+1 then(match H'.get l with
  |some b=>if b.iR then A (v,b)else Z
  |none=>Z)else Z
 |none=>Z
theorem ac8{r:Option (af×ae)}{l:Nat}{v:af}{b:bA}(h:g5 r l=A (v,b)):b.iR=true:=by
 unfold g5 at h;grind
def lV(P:Program)(o:Op)(R:bg)(l:Nat):Option (af×bA):=g5 (qT P o R ⟨.leaf,l⟩) l
def mF(P:Program)(o:Op)(R:bg)(H:ae):Option (af×ae):=
 match o with
 | .store t x y=>(cx R x).bind λu=>(cx R y).bind λv=>(cz P H t u v).map λH'=>(.tuple [],H')
 | .mapUpdate t m k x=>(cx R m).bind λu=>(cx R k).bind λv=>(cx R x).bind λz=>(jU P H t u v z).map λH'=>(.tuple [],H')
 | .insert t m k x=>(cx R m).bind λu=>(cx R k).bind λv=>(cx R x).bind λz=>(jU P H t u v z).map λH'=>(.tuple [],H')
 | .call c=>match c.callee,c.args.toList with
  | .builtin .append,[s,x]=>(cx R s).bind λu=>(cx R x).bind λv=>ej P H c.argTypes.toList u v
  | .builtin .clear,[x]=>(cx R x).bind λu=>(zl P H c.argTypes.toList u).map λH'=>(.tuple [],H')
  |_,_=>Z
 |_=>Z
def J2(x:Value):Next->Prop
 | .value y=>y=x
 | .skip=>x=undef
 |_=>False
theorem VK(f:Rel ρ H w){o:Oper}{v:af}{H':ae}(h:mF P o.op R H=A (v,H'))(aB:H.next<H'.next->ρ H.next=Z)(au:e1 ρ R a):
  ∃n x b g,(execOp a.eval o).run P w= .ok n b/\J2 x n/\bC g v x/\Step ρ H w g H' b:=by
 unfold mF at h;split at h
 ·rename_i t x y aX;simp only[e4,Option.map_eq_some_iff,dV]at h;obtain⟨u,ah,z,ai,H1,ay,rfl,rfl⟩:=h;obtain⟨b,e,d⟩:=VD f ay (eE au ah) (eE au ai);exact⟨.skip,undef,b,ρ,by grind[execOp,G8],rfl,.tuple [] [] .nil,d⟩
 ·rename_i t m k x aX;simp only[e4,Option.map_eq_some_iff,dV]at h;obtain⟨u,ah,z,ai,y,aM,H1,ay,rfl,rfl⟩:=h;obtain⟨b,e,d⟩:=Kt f ay (eE au ah) (eE au ai) (eE au aM);exact⟨.skip,undef,b,ρ,by grind[execOp,G8],rfl,.tuple [] [] .nil,d⟩
 ·rename_i t m k x aX;simp only[e4,Option.map_eq_some_iff,dV]at h;obtain⟨u,ah,z,ai,y,aM,H1,ay,rfl,rfl⟩:=h;obtain⟨b,e,d⟩:=Kt f ay (eE au ah) (eE au ai) (eE au aM);exact⟨.skip,undef,b,ρ,by grind[execOp,G8],rfl,.tuple [] [] .nil,d⟩
 ·rename_i c aX;split at h
  ·rename_i s x aA i;simp only[e4]at h;obtain⟨u,ah,z,ai,ay⟩:=h;obtain⟨r,b,g,e,d,j⟩:=UB f o.type ay aB (eE au ah) (eE au ai);refine⟨.value r,r,b,g,?_,rfl,d,j⟩;rw[A2 aX aA,map_toArray a.eval,i];refine hc (s:=Builtin.append_ c.argTypes o.type _) ?_;simpa using e
  ·rename_i x aA i;simp only[e4,Option.map_eq_some_iff,dV]at h;obtain⟨u,ah,H1,ay,rfl,rfl⟩:=h;obtain⟨b,e,d⟩:=UJ f o.type ay (eE au ah);refine⟨.value (.tuple #[]),.tuple #[],b,ρ,?_,rfl,.tuple [] [] .nil,d⟩;rw[A2 aX aA,map_toArray a.eval,i];refine hc (s:=Builtin.clear_ c.argTypes o.type _) ?_;simpa using e
  grind
 grind
