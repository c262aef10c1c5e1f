/-
  Texts of one proof, laid together: Hv8 Hv9 Hv10.
-/
import Derived.Test.YtmhhnnklfcbgfaaGreatMA
import Derived.Deep.AppendSrc
set_option linter.unusedVariables false
set_option linter.unusedSimpArgs false
set_option linter.defProp false
open Option renaming some→D,none→I
open Bool renaming true→C,false→Z
namespace Go.bo
section
variable {P:Program}{ρ:Env}{H:ad}{w:World}
def CY(c:Array Value):∀(d:List aa) (o:Nat),(∀(j:Nat) (v:aa),d[j]? =D v->v.one=C/\∃x,c[o+j]? =D x/\bB ρ v x)->
  ∃xs:List Value,bV ρ d xs/\(∀j u,xs[j]? =D u->c[o+j]? =D u)/\∀u∈xs,u.oneCell'=C
 |[],_,_=>⟨[],.nil,λj u h=>by simp at h,λu h=>by cases h⟩
 |v::d,o,h=>by
  obtain⟨ae,x,aD,b⟩:=h 0 v rfl;obtain⟨xs,e,f,g⟩:=CY c d (o+1) (λj u a=>by have:=h (j+1) u (by simpa using a);rwa[show o+(j+1)=o+1+j by omega]at this);refine⟨x::xs,.cons _ _ _ _ b e,?_,?_⟩
  ·intro j u a;cases j with
   |zero=>simp at a;subst a;exact aD
   |succ j=>rw[show o+(j+1)=o+1+j by omega];exact f j u (by simpa using a)
  ·intro u hu;rcases List.mem_cons.1 hu with rfl|hu
   ·exact b.Az ae
   ·exact g u hu
def GI(c:Array Value)(esz:Nat):∀(els:List (List aa)) (o:Nat),(∀(i:Nat) (e:List aa),els[i]? =D e->e.length=esz/\∀(j:Nat) (v:aa),e[j]? =D v->v.one=C/\∃x,c[o+i*esz+j]? =D x/\bB ρ v x)->
  ∃xs:List Value,bV ρ els.flatten xs/\(∀j u,xs[j]? =D u->c[o+j]? =D u)/\∀u∈xs,u.oneCell'=C
 |[],_,_=>⟨[],by simpa using bV.nil,λj u h=>by simp at h,λu h=>by cases h⟩
 |d::els,o,h=>by
  obtain⟨p,aA⟩:=h 0 d rfl;obtain⟨b,f,g,a3⟩:=CY c d o (λj v a=>by simpa using aA j v a);obtain⟨xs,k,l,m⟩:=GI c esz els (o+esz) (λi e he=>by
   have:=h (i+1) e (by simpa using he);rw[Nat.succ_mul]at this;refine⟨this.1,λj v a=> ?_⟩;have:=this.2 j v a;rwa[show o+(i*esz+esz)+j=o+esz+i*esz+j by omega]at this)
  have az:=f.length;refine⟨b++xs,by simpa using f.append k,?_,?_⟩
  ·intro j u a;by_cases n:j<b.length
   ·rw[List.getElem?_append_left n]at a;exact g j u a
   ·rw[List.getElem?_append_right ai]at a;have:=l _ u a;rwa[show o+esz+(j-b.length)=o+j by omega]at this
  ·intro u hu;rcases List.mem_append.1 hu with hu|hu
   ·exact a3 u hu
   ·exact m u hu
def hg(H:ad)(l i n esz:Nat):Option (List (List aa)):=
 match H.get l with
 |some (.row _ a els)=>if a=esz/\i+n<=els.length then D ((els.drop i).take n)else I
 |some (.dz _ a els)=>if a=esz/\i+n<=els.length then D ((els.drop i).take n)else I
 |_=>I
def w5{els:List (List aa)}{i n k:Nat}{e:List aa}(h:((els.drop i).take n)[k]? =D e):els[i+k]? =D e:=by
 rw[List.getElem?_take]at h;split at h
 ·rw[List.getElem?_drop]at h;exact h
 ·cases h
def B2{ro:Bool}{i n:Nat}{loc:Loc}{l:Nat}{els a:List (List aa)}(r:ft ρ w loc ro l els)(h:(if l=loc.esz/\i+n<=els.length then D ((els.drop i).take n)else I)=D a):
  a.length=n/\(∀e∈a,e.length=loc.esz)/\(∀e∈a,∀v∈e,v.one=C)/\
  ∃xs:List Value,bV ρ a.flatten xs/\xs.length=n*loc.esz/\(∀j u,xs[j]? =D u->w.cell? ⟨loc.block,loc.off+i*loc.esz+j,I⟩=D u)/\∀u∈xs,u.oneCell'=true:=by
 ·split at h
  ·rename_i q;obtain⟨rfl,hle⟩:=q;simp only[bn]at h;subst h;obtain⟨_,c,t,x,p,_,f⟩:=r;have hlen:((els.drop i).take n).length=n:=by simp;omega
   have ae:∀e∈(els.drop i).take n,e.length=loc.esz:=λe he=>by
    obtain⟨k,d⟩:=List.getElem?_of_mem he;exact(f _ e (w5 d)).1
   have ah:∀e∈(els.drop i).take n,∀v∈e,v.one=true:=λe he v s=>by
    obtain⟨k,d⟩:=List.getElem?_of_mem he;obtain⟨j,b⟩:=List.getElem?_of_mem s;exact((f _ e (w5 d)).2 j v b).1
   refine⟨hlen,ae,ah,?_⟩;obtain⟨xs,g,m,o⟩:=GI (ρ:=ρ) c loc.esz ((els.drop i).take n) (loc.off+i*loc.esz) (λk e d=>by
    have:=f _ e (w5 d);refine⟨this.1,λj v b=> ?_⟩;have:=this.2 j v b;rwa[Nat.add_mul,<-Nat.add_assoc]at this)
   refine⟨xs,g,by rw[<-g.length,l0 ae,hlen],λj u b=> ?_,o⟩;simp[World.cell?,p,m j u b]
  ·cases h
def yR(g:Rel ρ H w){l i n:Nat}{loc:Loc}{a:List (List aa)}(h:hg H l i n loc.esz=D a)(az:ρ l=D loc):
  a.length=n/\(∀e∈a,e.length=loc.esz)/\(∀e∈a,∀v∈e,v.one=C)/\
  ∃xs:List Value,bV ρ a.flatten xs/\xs.length=n*loc.esz/\(∀j u,xs[j]? =D u->w.cell? ⟨loc.block,loc.off+i*loc.esz+j,I⟩=D u)/\∀u∈xs,u.oneCell'=true:=by
 unfold hg at h;split at h
 ·rename_i ro k els b;obtain⟨f,c,d⟩:=g.row _ _ _ _ b;obtain rfl:loc=f:=Option.some.inj (az.symm.trans c);exact B2 d h
 ·rename_i t k els b;obtain⟨f,c,d,_⟩:=g.dz _ _ _ _ b;obtain rfl:loc=f:=Option.some.inj (az.symm.trans c);exact B2 d h
 ·cases h
def kf(P:Program)(H:ad)(c:TypeId)(esz:Nat)(x:aa):Option (List (List aa)):=
 match P.underlying c,x with
 |some (.slice _),.aJ l i n a _=>if a=esz then(if n=0 then D []else hg H l i n esz)else I
 |some (.slice _),.aB=>D []
 |some .string,.str s=>if esz=1 then D (s.map λb=>[.int .u8 b.toNat])else I
 |_,_=>I
def Le(s:List UInt8):bV ρ ((s.map λb=>[aa.int .u8 b.toNat]).flatten) (byteCells ⟨s.toArray⟩):=by
 unfold byteCells;show bV ρ _ (s.map _)
 induction s with
 |nil=>exact .nil
 |cons b s a=>exact .cons _ _ _ _ (.int _ _) a
def Kw(r:Rel ρ H w){m:TypeId}{esz:Nat}{x:aa}{o:Value}{b:List (List aa)}(h:kf P H m esz x=D b)(aD:bB ρ x o):
  (∀e∈b,e.length=esz)/\(∀e∈b,∀v∈e,v.one=C)/\∃news:List Value,bV ρ b.flatten news/\Src P esz m o b.length news w:=by
 unfold kf at h;split at h
 ·rename_i e l i n B cap hu;split at h
  ·rename_i he;subst he;cases aD with|aJ _ _ _ _ loc a c az aS aA t=>
   by_cases f:n=0
   ·subst f;simp only[if_true,bn]at h;subst h;exact⟨by simp,by simp,[],by simpa using bV.nil,Src.ofSlice w hu a 0 c [] (by simp) (λj u d=>by simp at d) (λu hu=>by cases hu)⟩
   rw[if_neg f]at h;obtain⟨ae,ah,ak,xs,au,g,p,q⟩:=yR r h az;refine⟨ah,ak,xs,au,?_⟩;rw[ae];refine Src.ofSlice w hu a n c xs g (λj u d=> ?_) q;have z:0<c:=by
    rcases Nat.eq_zero_or_pos c with k|k
    ·have f:n=0:=ai;rw[f]at g;have:xs=[]:=List.eq_nil_of_length_eq_zero (by simpa using g);subst this;simp at d
    ·exact k
   obtain⟨rfl,_⟩:=t z;rw[kd];exact p j u d
  ·cases h
 ·rename_i e hu;cases aD;simp only[bn]at h;subst h;exact⟨by simp,by simp,[],by simpa using bV.nil,Src.ofNil w hu 0⟩
 ·rename_i s hu;split at h
  ·rename_i he;subst he;cases aD;simp only[bn]at h;subst h;refine⟨by simp,by simp[aa.one],_,Le s,?_⟩;have:=Src.ofString w hu (⟨s.toArray⟩:ByteArray);have A:(⟨s.toArray⟩:ByteArray).size=s.length:=by show s.toArray.size=_;simp
   rw[A]at this;simpa using this
  ·cases h
 ·cases h
def j7(P:Program)(t:TypeId):Option Nat:=(P.info? t).map (·.bytes)
def vA(x:aa)(e:TypeId):Option TypeId:=match x with
 | .str _=>D e
 |_=>I
def KA{x:aa}{e:TypeId}:∀a,vA x e=D a->a=e:=by
 intro a h;unfold vA at h;split at h
 ·exact(Option.some.inj h).symm
 ·cases h
def p3(P:Program)(t:TypeId):Bool:=match P.underlying t with
 |some (.int .i64)=>C
 |_=>Z
def OJ{P:Program}{t:TypeId}(h:p3 P t=C):P.underlying t=D (.int .i64):=by
 unfold p3 at h;split at h
 ·assumption
 ·cases h
def vz(P:Program)(H:ad)(e:TypeId)(s x:aa):Option (aa×ad):=
 match s,x with
 | .aB,.int .i64 (.ofNat n)=>(match cD P e,j7 P e,e1 P e with
  |some esz,D gF,D z=>
   if 0<n/\z.cells.length=esz/\0<esz/\z.cells.all aa.one=C/\n*gF<=140737488355328/\n<=1125899906842624 then D (.aJ H.next 0 n esz I,H.push (.row Z esz (List.replicate n z.cells)))else I
  |_,_,_=>I)
 |_,_=>I
def cS(P:Program)(H:ad)(ts:List TypeId)(s x:aa):Option (aa×ad):=
 match ts with
 |[t,b]=>
  (match P.underlying t with
  |some (.slice e)=>
   if p3 P b=C then vz P H e s x else
   (match cD P e,j7 P e,e1 P e with
   |some esz,D gF,D z=>
    (match kf P H b esz x with
    |some a=>
     if z.cells.length=esz/\0<esz then
      (match s with
      | .aB=>if a.length=0 then D (.aB,H)else
       if a.length*gF<=140737488355328/\a.length<=9223372036854775807 then D (.aJ H.next 0 a.length esz I,H.push (eD (vA x e) esz a))else I
      | .aJ l i n c cap=>
       if c=esz then
        if a.length=0 then D (s,H)
        else if(n+a.length)*gF<=140737488355328/\n+a.length<=9223372036854775807 then
         (match hg H l i n esz with
         |some os=>
          if cap.any (· <n+a.length)=C then D (.aJ H.next 0 (n+a.length) esz I,H.push (.row Z esz (os++a)))
          else if cap=I then
           (match H.get l with
           |some (.row Z _ _)=>D (.aJ H.next 0 (n+a.length) esz I,(H.set l .dead).push (.row Z esz (os++a)))
           |some (.dz t0 _ _)=>if t0=e/\i=0 then D (.aJ H.next 0 (n+a.length) esz I,(H.set l .dead).push (.dz t0 esz (os++a)))else I
           |_=>I)
          else I
         |none=>I)
        else I
       else I
      |_=>I)
     else I
    |none=>I)
   |_,_,_=>I)
  |_=>I)
 |_=>I
def GN(w:World)(t d ty e:TypeId)(h:P.underlying t=D (.slice e)){esz:Nat}(g:cD P e=D esz)(base:Option Addr)(n c:Nat)(aS:n<=c)(x:Value)(a:Src P esz d x 0 [] w):
  (Builtin.append_ #[t,d] ty #[.slice base n c,x]).run P w= .ok (.slice base n c) w:=by
 have f:=a.cells;rcases a.kind with⟨i,b⟩|b<;>cases base<;>
  simp[Builtin.append_,run_underlying h,run_underlying b,run_sizeOf g,a.len,aS,f,storeCells]
def zz(B:Rel ρ H w)(aN:ρ H.next=I){ot:Option TypeId}{t j e:TypeId}(N:∀s,ot=D s->s=e)(ty:TypeId)(R:P.underlying t=D (.slice e)){esz gF:Nat}{z:aa}(g:cD P e=D esz)(f:j7 P e=D gF)(h:e1 P e=D z)
  (T:z.cells.length=esz) (ag:0<esz)
  {a os:List (List aa)} (d1:∀e∈a,e.length=esz) (d2:∀e∈a,∀v∈e,v.one=C) {news:List Value} (d3:bV ρ a.flatten news) {l:Value} (Q:Src P esz j l a.length news w)
  (p:∀e∈os,e.length=esz) (ae:∀e∈os,∀v∈e,v.one=C) {olds:List Value} (q:bV ρ os.flatten olds) (base:Option Addr) (n c:Nat) (M:os.length=n)
  (hold:(Builtin.firstCells esz n (.slice base n c)).run P w.drew= .ok olds.toArray w.drew) (m:c<n+a.length) (G:(n+a.length)*gF<=140737488355328) (af:n+a.length<=9223372036854775807):
  ∃r u x,(Builtin.append_ #[t,j] ty #[.slice base n c,l]).run P w= .ok r u/\bB x (.aJ H.next 0 (n+a.length) esz I) r/\Step ρ H w x (H.push (eD ot esz (os++a))) u:=by
 unfold e1 at h;unfold cD at g;unfold j7 at f;simp only[dP]at h;obtain⟨i,o,d,V,W⟩:=h;rw[o]at g f;simp only[Option.map_some,bn]at g f;subst g;subst f;have S:=(wX W ρ).cells;have U:d.cells.size=i.size:=by have:=S.length;rw[T]at this;simpa using this.symm
 have O:=run_append_grow_src (P:=P) w t j ty e i d R o V base n c olds hold l a.length news Q m ai (growslice_fits m G);have E:Rel ρ H w.drew:=B.drew;have b:=s_ (w:=w.drew) E aN (ot:=ot) (esz:=i.size) (els:=os++a) (λe he=>(List.mem_append.1 he).elim (p e) (d1 e)) (λe he=>(List.mem_append.1 he).elim (ae e) (d2 e))
  (xs:=olds++news) (tail:=(Builtin.zeroCells d.cells (grownCap w (n+a.length) c e-(n+a.length))).toList) (by simpa using q.append d3) e N
 have A:((olds++news)++(Builtin.zeroCells d.cells (grownCap w (n+a.length) c e-(n+a.length))).toList).toArray=(olds++news).toArray++Builtin.zeroCells d.cells (grownCap w (n+a.length) c e-(n+a.length)):=by
  apply Array.ext';simp
 rw[A]at b;refine⟨_,_,_,O,?_,⟨b.le,b.next,b.keep,b.rel,b.os,b.tape,b.output,b.size,b.frame,b.own,b.ro⟩⟩;have K:=grownCap_ge w (n+a.length) c e;refine bB.aJ (ρ:=ρ.dV H.next _) H.next 0 (n+a.length) I _ _ (grownCap w (n+a.length) c e) (Env.fV _ _ _) K (λk L=>by cases L) (λ_=>⟨by show(⟨w.heap.size,0,I⟩:Addr)=⟨w.heap.size,0+0*i.size,I⟩;simp,?_⟩)
 have Y:olds.length=n*i.size:=by rw[<-q.length,l0 p,M]
 have ab:news.length=a.length*i.size:=by rw[<-d3.length,l0 d1]
 have ad:(Builtin.zeroCells d.cells (grownCap w (n+a.length) c e-(n+a.length))).size=(grownCap w (n+a.length) c e-(n+a.length))*i.size:=by rw[size_zeroCells,U]
 simp only[Nat.zero_add,List.length_append,Y,ab,Array.length_toList,ad];rw[<-Nat.add_mul,<-Nat.add_mul];exact Nat.mul_le_mul_right _ ai
def S0(z:Rel ρ H w)(aN:ρ H.next=I){ot:Option TypeId}{l i n esz:Nat}{els:List (List aa)}(B:H.get l=D (eD ot esz els)){loc:Loc}(az:ρ l=D loc)(aT:i+n<=els.length)
  {d:List (List aa)} (d1:∀e∈d,e.length=esz) (d2:∀e∈d,∀v∈e,v.one=C) {news:List Value} (d3:bV ρ d.flatten news) (aS:loc.off+(i+n+d.length)*esz<=loc.size) (aC:∀p,ot=D p->i=0):
  Step ρ H w (ρ.dV H.next ⟨loc.block,loc.off+i*esz,esz,loc.size⟩) ((H.set l .dead).push (eD ot esz ((els.drop i).take n++d))) (w.setCells loc.block (loc.off+(i+n)*esz) news):=by
 have ay:=ad.b6 B;obtain⟨f,m,⟨_,arr,t,Y,Q,ag,aG⟩,aK⟩:=wR z B;obtain rfl:loc=f:=Option.some.inj (az.symm.trans m);have aH:=ag.1;have au:=ag.2 rfl;have hle:=Env.k8 aN ⟨loc.block,loc.off+i*esz,esz,loc.size⟩;have aV:news.length=d.length*esz:=by rw[<-d3.length,l0 d1]
 obtain⟨s1,s2,aM,aO⟩:=Bn loc.block news (loc.off+(i+n)*esz) w;have u:∀k,k≠H.next->k≠l->((H.set l .dead).push (eD ot esz ((els.drop i).take n++d))).get k=H.get k:=λk ae ah=>by
  rw[ad.eN (by simpa using ae),ad.cW (Ne.symm ah)]
 have s:((H.set l .dead).push (eD ot esz ((els.drop i).take n++d))).get l=D .dead:=by
  rw[ad.eN (by simp;omega),ad.dA ay]
 have L:((H.set l .dead).push (eD ot esz ((els.drop i).take n++d))).get H.next=D (eD ot esz ((els.drop i).take n++d)):=ad.bq (H.set l .dead) _
 have ao:∀k,((H.set l .dead).push (eD ot esz ((els.drop i).take n++d))).rw k->k≠H.next->H.rw k/\k≠l:=λk h a=>by
  have c:k≠l:=by rintro rfl;rcases h with⟨_,_,h⟩|⟨_,h⟩|⟨_,_,_,h⟩<;>(rw[s]at h;cases h)
  simpa [ad.rw,u k a c,c]using h
 have al:∀k,((H.set l .dead).push (eD ot esz ((els.drop i).take n++d))).live k->k≠H.next->H.live k/\k≠l:=λk h a=>by
  have c:k≠l:=by rintro rfl;rcases h with⟨_,_,_,h⟩|⟨_,h⟩|⟨_,_,_,h⟩<;>(rw[s]at h;cases h)
  simpa [ad.live,u k a c,c]using h
 have E:∀k f,H.live k->k≠l->ρ k=D f->f.block≠loc.block:=λk f h ca e heq=>
  z.apart l k loc f (oo B) h (Ne.symm ca) az e heq.symm
 have key:ft (ρ.dV H.next ⟨loc.block,loc.off+i*esz,esz,loc.size⟩) (w.setCells loc.block (loc.off+(i+n)*esz) news) ⟨loc.block,loc.off+i*esz,esz,loc.size⟩ Z esz ((els.drop i).take n++d)/\
   (w.setCells loc.block (loc.off+(i+n)*esz) news).heap[loc.block]? =D (.cells (hx arr (loc.off+(i+n)*esz) news) t Y):=by
  refine⟨⟨rfl,_,t,Y,vf _ _ _ _ _ _ _ Q,⟨by rw[tc];exact aH,λ_=>by rw[tc];exact au⟩,?_⟩,vf _ _ _ _ _ _ _ Q⟩;intro q e he;have ax:((els.drop i).take n).length=n:=by simp;omega
  by_cases a8:q<n
  ·rw[List.getElem?_append_left ai]at he;have ar:=w5 he;obtain⟨a0,N⟩:=aG _ e ar;refine⟨a0,λj v g=> ?_⟩;obtain⟨O,x,aD,G⟩:=N j v g;refine⟨O,x,?_,G.mono hle⟩;have av:j<esz:=by
    rcases Nat.lt_or_ge j e.length with h|h
    ·omega
    ·rw[List.getElem?_eq_none h]at g;cases g
   show(hx arr (loc.off+(i+n)*esz) news)[loc.off+i*esz+q*esz+j]? =D x;rw[qd _ _ _ _ (by have:=sV (n:=esz) (show i+q<i+n by omega);rw[Nat.add_mul]at this;omega)];rw[show loc.off+i*esz+q*esz+j=loc.off+(i+q)*esz+j by rw[Nat.add_mul];omega];exact aD
  ·rw[List.getElem?_append_right ai,ax]at he;refine⟨d1 e (List.mem_of_getElem? he),λj v g=> ?_⟩;obtain⟨x,aD,G⟩:=d3.get _ _ (zs d1 he g);refine⟨d2 e (List.mem_of_getElem? he) v (List.mem_of_getElem? g),x,?_,G.mono hle⟩;have aE:q-n<d.length:=by
    rcases Nat.lt_or_ge (q-n) d.length with h|h
    ·exact h
    ·rw[List.getElem?_eq_none h]at he;cases he
   have av:j<esz:=by
    have:=d1 e (List.mem_of_getElem? he);rcases Nat.lt_or_ge j e.length with h|h
    ·omega
    ·rw[List.getElem?_eq_none h]at g;cases g
   have aR:=sV (n:=esz) aE;have aU:(i+n+d.length)*esz=(i+n)*esz+d.length*esz:=Nat.add_mul _ _ _;have:=w7 news arr (loc.off+(i+n)*esz) ((q-n)*esz+j) x aD ai;show(hx arr (loc.off+(i+n)*esz) news)[loc.off+i*esz+q*esz+j]? =D x;rw[show loc.off+i*esz+q*esz+j=loc.off+(i+n)*esz+((q-n)*esz+j) by
    have:q*esz=n*esz+(q-n)*esz:=by rw[<-Nat.add_mul];congr 1;omega
    rw[Nat.add_mul];omega]
   exact this
 refine⟨hle,by simp,λk a=>Env.ga (by simp at a;omega),⟨?_,?_,?_,?_⟩,s2,aM,aO,Nat.le_of_eq s1.symm,?_,?_,?ro⟩
 case ro=>
  intro k W V h;by_cases a:k=H.next
  ·subst a;rw[L]at h;have:=Am ot esz ((els.drop i).take n++d);rw[Option.some.inj h]at this;cases this
  ·by_cases c:k=l
   ·subst c;rw[s]at h;cases h
   ·rwa[u k a c]at h
 ·intro k aX W V h;by_cases a:k=H.next
  ·subst a;rw[L]at h;obtain⟨rfl,rfl,rfl,-⟩:=An (Option.some.inj h);exact⟨_,Env.fV _ _ _,key.1⟩
  ·by_cases c:k=l
   ·subst c;rw[s]at h;cases h
   ·rw[u k a c]at h;obtain⟨f,m,aL,ap,p,aq,S,T,U⟩:=z.row _ _ _ _ h;have o:=E k f (.inl ⟨_,_,_,h⟩) c m;refine⟨f,by rw[Env.ga a];exact m,aL,ap,p,aq,by rw[kN _ _ _ _ _ o];exact S,T,?_⟩;intro q e he;obtain⟨a0,N⟩:=U q e he;refine⟨a0,λj v g=> ?_⟩;obtain⟨O,x,aD,G⟩:=N j v g;exact⟨O,x,aD,G.mono hle⟩
 ·intro k es h;by_cases a:k=H.next
  ·subst a;rw[L]at h;exact(Al (Option.some.inj h)).elim
  ·by_cases c:k=l
   ·subst c;rw[s]at h;cases h
   ·rw[u k a c]at h;obtain⟨f,m,ents,clock,S,T,U⟩:=z.map _ _ h;have o:=E k f (.inr (.inl ⟨_,h⟩)) c m;exact⟨f,by rw[Env.ga a];exact m,ents,clock,by rw[kN _ _ _ _ _ o];exact S,T.mono hle,U.mono hle⟩
 ·intro k p W V h;by_cases a:k=H.next
  ·subst a;rw[L]at h;obtain⟨ab,rfl,rfl⟩:=Ao (Option.some.inj h);obtain⟨aP,aQ,af,aW⟩:=aK p ab;obtain rfl:=aC p ab;have aI:p=t:=by rw[Q]at af;cases af;rfl
   subst aI;exact⟨_,Env.fV _ _ _,key.1,_,_,key.2,by show loc.off+0*esz=0;omega⟩
  ·by_cases c:k=l
   ·subst c;rw[s]at h;cases h
   ·rw[u k a c]at h;obtain⟨f,m,aF⟩:=z.dz _ _ _ _ h;have o:=E k f (.inr (.inr ⟨_,_,_,h⟩)) c m;exact⟨f,by rw[Env.ga a];exact m,aF.frame hle (kN _ _ _ _ _ o)⟩
 ·intro k K am an ae ah o A r;by_cases a:k=H.next
  ·subst a;rw[Env.fV]at A;obtain rfl:=Option.some.inj A;obtain⟨P,aj⟩:=al K ah (Ne.symm o);rw[Env.ga (Ne.symm o)]at r;exact(E K an P aj r).symm
  ·obtain⟨M,aw⟩:=ao k ae a;rw[Env.ga a]at A;by_cases R:K=H.next
   ·subst R;rw[Env.fV]at r;obtain rfl:=Option.some.inj r;exact E k am M.live aw A
   ·obtain⟨P,aj⟩:=al K ah R;rw[Env.ga R]at r;exact z.apart k K am an M P o A r
 ·intro b _ aA;refine kN _ _ _ _ _ ?_;rintro rfl;exact aA ⟨l,loc,oo B,az,rfl⟩
 ·rintro b ⟨k,f,ae,ah,ak⟩;by_cases a:k=H.next
  ·subst a;rw[Env.fV]at ah;obtain rfl:=Option.some.inj ah;exact .inl ⟨l,loc,oo B,az,ak⟩
  ·obtain⟨M,_⟩:=ao k ae a;rw[Env.ga a]at ah;exact .inl ⟨k,f,M,ah,ak⟩
def Step.dead{o:Env}{f d:ad}{n:World}(h:Step ρ H w o f n)(aS:d.next=f.next)(j:∀k,d.get k=f.get k\/d.get k=D .dead):Step ρ H w o d n:=by
 have g:∀k ro esz els,d.get k=D (.row ro esz els)->f.get k=D (.row ro esz els):=λk ro esz els e=>by
  rcases j k with h|h
  ·rw[<-h];exact e
  ·rw[h]at e;cases e
 have get_map:∀k es,d.get k=D (.map es)->f.get k=D (.map es):=λk es e=>by
  rcases j k with h|h
  ·rw[<-h];exact e
  ·rw[h]at e;cases e
 have i:∀k t esz els,d.get k=D (.dz t esz els)->f.get k=D (.dz t esz els):=λk t esz els e=>by
  rcases j k with h|h
  ·rw[<-h];exact e
  ·rw[h]at e;cases e
 have m:∀k,d.rw k->f.rw k:=λk h=>by
  rcases h with⟨a,b,h⟩|⟨a,h⟩|⟨a,b,c,h⟩
  ·exact .inl ⟨a,b,g _ _ _ _ h⟩
  ·exact .inr (.inl ⟨a,get_map _ _ h⟩)
  ·exact .inr (.inr ⟨a,b,c,i _ _ _ _ h⟩)
 have p:∀k,d.live k->f.live k:=λk h=>by
  rcases h with⟨a,b,c,h⟩|⟨a,h⟩|⟨a,b,c,h⟩
  ·exact .inl ⟨a,b,c,g _ _ _ _ h⟩
  ·exact .inr (.inl ⟨a,get_map _ _ h⟩)
  ·exact .inr (.inr ⟨a,b,c,i _ _ _ _ h⟩)
 refine⟨h.le,by rw[aS];exact h.next,λl az=>h.keep l (by rw[<-aS];exact az),⟨λl ro esz els e=>h.rel.row l ro esz els (g _ _ _ _ e),λl es e=>h.rel.map l es (get_map _ _ e),λl t esz els e=>h.rel.dz l t esz els (i _ _ _ _ e),λl q a b ae ah=>h.rel.apart l q a b (m _ ae) (p _ ah)⟩,h.os,h.tape,h.output,h.size,h.frame,?_,λk esz els e=>h.ro k esz els (g _ _ _ _ e)⟩;rintro b ⟨l,loc,ae,ah,ak⟩;exact h.own b ⟨l,loc,m _ ae,ah,ak⟩
def J3{ot:Option TypeId}{l i n esz a:Nat}{els os:List (List aa)}(b:H.get l=D (eD ot a els))(h:hg H l i n esz=D os):a=esz/\i+n<=els.length/\os=(els.drop i).take n:=by
 unfold hg at h;cases ot with
 |none=>
  rw[b]at h;simp only[eD]at h;split at h
  ·rename_i aA;exact⟨aA.1,aA.2,(Option.some.inj h).symm⟩
  ·cases h
 |some t=>
  rw[b]at h;simp only[eD]at h;split at h
  ·rename_i aA;exact⟨aA.1,aA.2,(Option.some.inj h).symm⟩
  ·cases h
def Em(s:Rel ρ H w)(aN:ρ H.next=I){ot:Option TypeId}{t B e:TypeId}(aq:∀o,ot=D o->o=e)(ty:TypeId)(hu:P.underlying t=D (.slice e)){gF:Nat}{z:aa}{l i n:Nat}{cap:Option Nat}{loc:Loc}{a os:List (List aa)}(aE:cap=I)(aF:¬a.length=0)(b:cD P e=D loc.esz)(ab:j7 P e=D gF)(av:e1 P e=D z)
  (aw:z.cells.length=loc.esz) (ar:0<loc.esz)
  (d1:∀e∈a,e.length=loc.esz) (d2:∀e∈a,∀v∈e,v.one=C) {news:List Value} (d3:bV ρ a.flatten news) {E:Value} (Q:Src P loc.esz B E a.length news w)
  (A:os.length=n) (ay:∀e∈os,e.length=loc.esz) (aA:∀e∈os,∀v∈e,v.one=C) {olds:List Value} (aC:bV ρ os.flatten olds) (f:Addr) (c:Nat)
  (hold:(Builtin.firstCells loc.esz n (.slice (D f) n c)).run P w.drew= .ok olds.toArray w.drew) (G:(n+a.length)*gF<=140737488355328/\n+a.length<=9223372036854775807)
  (az:ρ l=D loc) (Y:0<c->f=⟨loc.block,loc.off+i*loc.esz,I⟩/\loc.off+(i+c)*loc.esz<=loc.size) {T:Nat} {S:List (List aa)} (an:∀o,ot=D o->i=0) (g:H.get l=D (eD ot T S)) (ap:hg H l i n loc.esz=D os):
  ∃r p q,(Builtin.append_ #[t,B] ty #[.slice (D f) n c,E]).run P w= .ok r p/\bB q (.aJ H.next 0 (n+a.length) loc.esz I) r/\Step ρ H w q ((H.set l .dead).push (eD ot loc.esz (os++a))) p:=by
 obtain⟨aG,ao⟩:=J3 g ap;obtain⟨ax,al,⟨af,arr,t0,aD,K,L,aI⟩,-⟩:=wR s g;obtain rfl:loc=ax:=Option.some.inj (az.symm.trans al);subst af;obtain⟨ak,rfl⟩:=ao
 ·have A:=A;by_cases x:n+a.length<=c
  ·obtain⟨rfl,ag⟩:=Y ai;have aK:=L.1;have aj:=L.2 rfl;have au:=S0 (n:=n) s aN g az ak d1 d2 d3 (by
    refine Nat.le_trans (Nat.add_le_add_left (Nat.mul_le_mul_right _ ?_) _) ag;omega) an
   have aH:news.length=a.length*loc.esz:=by rw[<-d3.length,l0 d1]
   have M:∀j,j<news.length->loc.off+i*loc.esz+n*loc.esz+j<arr.size:=by
    intro j m;have ae:(i+c)*loc.esz=i*loc.esz+c*loc.esz:=Nat.add_mul _ _ _;have ah:n*loc.esz+a.length*loc.esz<=c*loc.esz:=by rw[<-Nat.add_mul];exact Nat.mul_le_mul_right _ x
    omega
   cases u:P.info? e with
   |none=>unfold cD at b;rw[u]at b;cases b
   |some R=>
    have h:R.size=loc.esz:=by unfold cD at b;rw[u]at b;simpa using b
    have O:=run_append_room_src (P:=P) w t B ty e R hu u loc.block (loc.off+i*loc.esz) n c E a.length news (by rw[h];exact Q) x
     (λj m=>by rw[h];simp[World.cell?,K,M j m])
     (λj m=>by
      rw[h];have:=aj _ (M j m);simp only[World.frozen?,K];simpa using this)
    rw[h]at O;refine⟨_,_,_,O,?_,by rw[show loc.off+i*loc.esz+n*loc.esz=loc.off+(i+n)*loc.esz by rw[Nat.add_mul];omega];exact au⟩;refine bB.aJ (ρ:=ρ.dV H.next _) H.next 0 (n+a.length) I ⟨loc.block,loc.off+i*loc.esz,loc.esz,loc.size⟩ _ c (Env.fV _ _ _) x (λk d=>by cases d) (λ_=>⟨by simp,?_⟩)
    have ae:(i+c)*loc.esz=i*loc.esz+c*loc.esz:=Nat.add_mul _ _ _;simp only[Nat.zero_add];omega
  ·
    obtain⟨r,p,q,U,V,W⟩:=zz s aN (ot:=ot) aq ty hu b ab av aw ar d1 d2 d3 Q ay aA aC (D f) n c A hold ai G.1 G.2;refine⟨r,p,q,U,V,W.dead (by simp) (λk=> ?_)⟩;have am:=ad.b6 g;by_cases d:k=H.next
    ·subst d;left;rw[ad.bq];exact ad.bq (H.set l .dead) _
    ·by_cases N:k=l
     ·subst N;right;rw[ad.eN (by simpa using d),ad.dA am]
     ·left;rw[ad.eN (by simpa using d),ad.cW (Ne.symm N),ad.eN d]
def BO(z:Array Value):∀n,(Builtin.zeroCells z n).toList=(List.replicate n z.toList).flatten
 |0=>by simp[Builtin.zeroCells]
 |n+1=>by
  rw[List.replicate_succ,List.flatten_cons,<-BO z n];apply List.ext_getElem?;intro i;simp only[Builtin.zeroCells,Array.toList_map,Array.toList_range,List.getElem?_map];by_cases a:i<(n+1)*z.size
  ·have b:0<z.size:=by
    rcases Nat.eq_zero_or_pos z.size with h|h
    ·rw[h]at a;simp at a
    ·exact h
   rw[List.getElem?_range a];by_cases ah:i<z.size
   ·rw[List.getElem?_append_left (by simpa using ah)];simp[Nat.mod_eq_of_lt ah,ah]
   ·rw[List.getElem?_append_right (by simp;omega)];rw[Nat.succ_mul]at a;simp only[Array.length_toList,List.getElem?_map];rw[List.getElem?_range ai];simp only[Option.map_some];rw[show i%z.size=(i-z.size)%z.size from Nat.mod_eq_sub_mod ai]
  ·rw[List.getElem?_eq_none (by simp;omega)];rw[List.getElem?_append_right (by simp;rw[Nat.succ_mul]at a;omega)];rw[List.getElem?_eq_none]
   ·rfl
   ·rw[Nat.succ_mul]at a;simp;omega
def Va(t a ty e:TypeId)(i:TypeInfo)(z:Value)(f:P.underlying t=D (.slice e))(d:P.info? e=D i)(g:i.zero=D z)(aD:P.underlying a=D (.int .i64))(n:Nat)(aS:0<n)(o:0<i.size)
  (l:n*i.bytes<=140737488355328) (k:n<=1125899906842624) (m:Builtin.nextslicecap n 0*i.bytes<=281474976710656):
  (Builtin.append_ #[t,a] ty #[.slice I 0 0,.int .i64 n]).run P w=
   .ok (.slice (D ⟨w.heap.size,0,I⟩) n (grownCap w n 0 e)) (w.drew.alloc (.cells (Builtin.zeroCells z.cells n++Builtin.zeroCells z.cells (grownCap w n 0 e-n)) e)):=by
 have hw:IntKind.i64.wrap (n:Int)=n:=IntWalk.i64_in n ⟨ai,ai⟩;have ae:¬((n:Int)<0):=ai;have ah:¬((n:Int)*(i.bytes:Int)>281474976710656):=by
  have:((n*i.bytes:Nat):Int)<=140737488355328:=ai;rw[Int.natCast_mul]at this;omega
 have ak:¬(n<=0):=ai;have au:¬(9223372036854775807<(n:Int)):=ai;have b:¬(281474976710656<Builtin.nextslicecap n 0*i.bytes):=ai;have c:¬(n*i.size=0):=by
  intro h;rcases Nat.mul_eq_zero.1 h with h|h<;>omega
 have j:¬(n=0\/i.size=0):=ai;simp[Builtin.append_,run_underlying f,run_underlying aD,sizeOf,typeInfo,zeroValue,d,g,ae,ah,au,b,hw,asInt,asIntOf,Question.forced,newRow,grownCap,Builtin.firstCells];rw[if_neg ai,if_neg c]
def Jh{ρ:Env}{cs:List aa}{xs:List Value}(h:bV ρ cs xs):∀n,bV ρ (List.replicate n cs).flatten (List.replicate n xs).flatten
 |0=> .nil
 |n+1=>by rw[List.replicate_succ,List.replicate_succ,List.flatten_cons,List.flatten_cons];exact h.append (Jh h n)
def Km(L:Rel ρ H w){t j e:TypeId}{s x a:aa}{u B:Value}{H':ad}(ty:TypeId)(hu:P.underlying t=D (.slice e))(V:P.underlying j=D (.int .i64))(h:vz P H e s x=D (a,H'))(M:H.next<H'.next->ρ H.next=I)(U:bB ρ s u)(aD:bB ρ x B):
  ∃r A E,(Builtin.append_ #[t,j] ty #[u,B]).run P w= .ok r A/\bB E a r/\Step ρ H w E H' A:=by
 unfold vz at h;split at h
 ·rename_i n;cases U;cases aD;split at h
  ·rename_i esz gF z f d g;split at h
   ·rename_i aA;obtain⟨aS,q,S,R,l,K⟩:=aA;simp only[bn,cM]at h;obtain⟨rfl,rfl⟩:=h;have aN:=M (by simp);unfold e1 at g;unfold cD at f;unfold j7 at d;simp only[dP]at g;obtain⟨i,m,c,Y,ab⟩:=g;rw[m]at f d;simp only[Option.map_some,bn]at f d;subst f;subst d;have p:=(wX ab ρ).cells;have W:c.cells.size=i.size:=by have:=p.length;rw[q]at this;simpa using this.symm
    have N:=growslice_fits (need:=n) (old:=0) (bytes:=i.bytes) ai l;have T:=Va (P:=P) (w:=w) t j ty e i c hu m Y V n aS S l K (by simpa using N);have b:=s_ (w:=w.drew) L.drew aN (ot:=none) (esz:=i.size) (els:=List.replicate n z.cells) (λe he=>by rw[List.eq_of_mem_replicate he];exact q) (λe he v o=>by rw[List.eq_of_mem_replicate he]at o;exact List.all_eq_true.1 R v o)
     (xs:=(Builtin.zeroCells c.cells n).toList) (tail:=(Builtin.zeroCells c.cells (grownCap w n 0 e-n)).toList) (by rw[BO];exact Jh p n) e (λ_ h=>by cases h)
    have G:((Builtin.zeroCells c.cells n).toList++(Builtin.zeroCells c.cells (grownCap w n 0 e-n)).toList).toArray=Builtin.zeroCells c.cells n++Builtin.zeroCells c.cells (grownCap w n 0 e-n):=by
     apply Array.ext';simp
    rw[G]at b;refine⟨_,_,_,T,?_,⟨b.le,b.next,b.keep,b.rel,b.os,b.tape,b.output,b.size,b.frame,b.own,b.ro⟩⟩;have O:n<=grownCap w n 0 e:=grownCap_ge w n 0 e;refine bB.aJ (ρ:=ρ.dV H.next _) H.next 0 n I _ _ (grownCap w n 0 e) (Env.fV _ _ _) O (λk Q=>by cases Q) (λ_=>⟨by show(⟨w.heap.size,0,I⟩:Addr)=⟨w.heap.size,0+0*i.size,I⟩;simp,?_⟩)
    simp only[Nat.zero_add,Array.length_toList,size_zeroCells,W];rw[<-Nat.add_mul];exact Nat.mul_le_mul_right _ ai
   ·cases h
  ·cases h
 ·cases h
def JQ(d:Rel ρ H w){ts:List TypeId}{s x a:aa}{ag v:Value}{H':ad}(ty:TypeId)(h:cS P H ts s x=D (a,H'))(p:H.next<H'.next->ρ H.next=I)(G:bB ρ s ag)(aD:bB ρ x v):
  ∃r ah aj,(Builtin.append_ ts.toArray ty #[ag,v]).run P w= .ok r ah/\bB aj a r/\Step ρ H w aj H' ah:=by
 unfold cS at h;split at h
 ·rename_i t W;split at h
  ·rename_i e hu;split at h
   ·rename_i am;exact Km d ty hu (OJ am) h p G aD
   split at h
   ·rename_i esz gF z m A K;split at h
    ·rename_i M ap;obtain⟨d1,d2,news,d3,q⟩:=Kw (P:=P) d ap aD;split at h
     ·rename_i ar;obtain⟨L,E⟩:=ar;have ae:M.length=0->Src P esz W v 0 [] w:=λb=>by
       have:M=[]:=List.eq_nil_of_length_eq_zero b;subst this;have:news=[]:=by cases d3;rfl
       subst this;simpa using q
      split at h
      ·cases G;split at h
       ·rename_i b;simp only[bn,cM]at h;obtain⟨rfl,rfl⟩:=h;exact⟨_,_,_,GN w t W ty e hu m I 0 0 (b4 _) v (ae b),.aB,Step.refl d⟩
       ·rename_i b;split at h
        ·rename_i g;simp only[bn,cM]at h;obtain⟨rfl,rfl⟩:=h;have aN:=p (by simp);have:=zz d aN (KA (x:=x)) ty hu m A K L E d1 d2 d3 q (os:=[]) (by simp) (by simp) (olds:=[]) (by simpa using bV.nil) I 0 0 rfl
          (run_firstCells_none w.drew esz 0 0 0) ai (by simpa using g.1) (by simpa using g.2)
         simpa using this
        ·cases h
      ·rename_i l i n av cap;split at h
       ·rename_i he;split at h
        ·rename_i b;simp only[bn,cM]at h;obtain⟨rfl,rfl⟩:=h;cases G with|aJ _ _ _ _ loc f c az aS aA o=>
         exact⟨_,_,_,GN w t W ty e hu m (D f) n c aS v (ae b),.aJ l i n cap loc f c az aS aA o,Step.refl d⟩
        ·rename_i b;split at h
         ·rename_i g;split at h
          ·rename_i os Q;cases G with|aJ _ _ _ _ loc f c az aS aA o=>
           subst he;obtain⟨R,S,T,olds,U,V,au,aw⟩:=yR d Q az;have hold:(Builtin.firstCells loc.esz n (.slice (D f) n c)).run P w.drew= .ok olds.toArray w.drew:=by
            refine run_firstCells_some w.drew loc.esz n f n c olds V (λj u ab=> ?_);have ao:0<c:=by
             rcases Nat.eq_zero_or_pos c with b|b
             ·have aq:n=0:=ai;rw[aq]at V;have:olds=[]:=List.eq_nil_of_length_eq_zero (by simpa using V);subst this;simp at ab
             ·exact b
            obtain⟨rfl,_⟩:=o ao;rw[kd];exact au j u ab
           split at h
           ·rename_i B;simp only[bn,cM]at h;obtain⟨rfl,rfl⟩:=h;have aN:=p (by simp);have an:c<n+M.length:=by
             cases N:cap with
             |none=>rw[N]at B;simp at B
             |some k=>rw[N]at B;simp at B;have:=aA k N;omega
            exact zz d aN (ot:=none) (λ_ h=>by cases h) ty hu m A K L E d1 d2 d3 q S T U (D f) n c R hold an g.1 g.2
           ·split at h
            ·rename_i Y;split at h
             ·rename_i ak al O;simp only[bn,cM]at h;obtain⟨rfl,rfl⟩:=h;exact Em d (p (by simp)) (ot:=none) (λ_ h=>by cases h) ty hu Y b m A K L E d1 d2 d3 q R S T U f c hold g az o (λ_ h=>by cases h) O Q
             ·rename_i t0 ak al O;split at h
              ·rename_i af;simp only[bn,cM]at h;obtain⟨rfl,rfl⟩:=h;exact Em d (p (by simp)) (ot:=some t0) (λ_ h=>by rw[<-Option.some.inj h];exact af.1) ty hu Y b m A K L E d1 d2 d3 q R S T U f c hold g az o (λ_ _=>af.2) O Q
              ·cases h
             ·cases h
            ·cases h
          ·cases h
         ·cases h
       ·cases h
      ·cases h
     ·cases h
    ·cases h
   ·cases h
  ·cases h
 ·cases h
end
section
variable {P:Program}{ρ:Env}{H:ad}{w:World}
def su(P:Program)(H:ad)(t:TypeId)(x:aa):Option aa:=
 match P.underlying t,x with
 |some .string,.str s=>D (.int .i64 s.length)
 |some (.slice _),.aJ _ _ n _ _=>D (.int .i64 n)
 |some (.slice _),.aB=>D (.int .i64 0)
 |some (.array n _),_=>D (.int .i64 n)
 |some (.map _ _),.hv=>D (.int .i64 0)
 |some (.map _ _),.map l=>(match H.get l with|some (.map es)=>D (.int .i64 es.length)|_=>I)
 |_,_=>I
def sJ{l:Nat}{es:List (aa×aa)}(b:Rel ρ H w)(c:H.get l=D (.map es)){loc:Loc}(az:ρ l=D loc):
  ∃ents clock,w.heap[loc.block]? =D (.map ents clock)/\(getObj loc.block).run P w= .ok (.map ents clock) w/\bV ρ (es.map (·.1)) (ents.toList.map (·.key))/\bV ρ (es.map (·.2)) (ents.toList.map (·.val)):=by
 obtain⟨e,d,ents,clock,a,ae,ah⟩:=b.map _ _ c;obtain rfl:loc=e:=Option.some.inj (az.symm.trans d);exact⟨ents,clock,a,by simp[getObj,Sem.run,a],ae,ah⟩
def Kd(b:Rel ρ H w){t:TypeId}{x v:aa}{a:Value}(ty:TypeId)(h:su P H t x=D v)(aD:bB ρ x a):∃r,(Builtin.len_ #[t] ty #[a]).run P w= .ok r w/\bB ρ v r:=by
 unfold su at h;split at h
 ·rename_i s hu;cases aD;simp only[bn]at h;subst h;have f:(⟨s.toArray⟩:ByteArray).size=s.length:=by show s.toArray.size=_;simp
  exact⟨_,by simp[Builtin.len_,run_underlying hu,goInt,f],.int _ _⟩
 ·rename_i hu;cases aD;simp only[bn]at h;subst h;exact⟨_,by simp[Builtin.len_,run_underlying hu,goInt],.int _ _⟩
 ·rename_i hu;cases aD;simp only[bn]at h;subst h;exact⟨_,by simp[Builtin.len_,run_underlying hu,goInt],.int _ _⟩
 ·rename_i n e hu;simp only[bn]at h;subst h;exact⟨_,by simp[Builtin.len_,run_underlying hu,goInt],.int _ _⟩
 ·rename_i hu;cases aD;simp only[bn]at h;subst h;exact⟨_,by simp[Builtin.len_,run_underlying hu,goInt],.int _ _⟩
 ·rename_i hu;cases aD with|map _ loc az=>
  split at h
  ·rename_i es c;simp only[bn]at h;subst h;obtain⟨ents,clock,g,d,ae,ah⟩:=sJ (P:=P) b c az;have hlen:=ae.length;simp only[List.length_map,Array.length_toList]at hlen;exact⟨_,by simp[Builtin.len_,run_underlying hu,goInt,d,<-hlen],.int _ _⟩
  ·cases h
 ·cases h
def yY(x y:aa):Option aa:=
 match x,y with
 | .int k a,.int _ b=>D (.int k (if a<b then b else a))
 |_,_=>I
def yZ(x y:aa):Option aa:=
 match x,y with
 | .int k a,.int _ b=>D (.int k (if b<a then b else a))
 |_,_=>I
def Ko{x y v:aa}{a b:Value}(ts:Array TypeId)(ty:TypeId)(h:yY x y=D v)(aD:bB ρ x a)(c:bB ρ y b)(w:World):∃r,(Builtin.max_ ts ty #[a,b]).run P w= .ok r w/\bB ρ v r:=by
 unfold yY at h;split at h
 ·cases aD;cases c;simp only[bn]at h;subst h;exact⟨_,by simp[Builtin.max_,Builtin.max2],.int _ _⟩
 ·cases h
def Kq{x y v:aa}{a b:Value}(ts:Array TypeId)(ty:TypeId)(h:yZ x y=D v)(aD:bB ρ x a)(c:bB ρ y b)(w:World):∃r,(Builtin.min_ ts ty #[a,b]).run P w= .ok r w/\bB ρ v r:=by
 unfold yZ at h;split at h
 ·cases aD;cases c;simp only[bn]at h;subst h;exact⟨_,by simp[Builtin.min_,Builtin.min2],.int _ _⟩
 ·cases h
def gC(x:aa)(i:Nat):Option aa:=
 match x with
 | .tuple a=>a[i]?
 |_=>I
def J8{x v:aa}{a:Value}{i:Nat}(h:gC x i=D v)(aD:bB ρ x a)(w:World):∃r,(Instr.extract a i).run P w= .ok r w/\bB ρ v r:=by
 unfold gC at h;split at h
 ·cases aD with|tuple _ xs c=>
  obtain⟨r,b,d⟩:=c.get _ _ h;exact⟨r,by simp[Instr.extract,b],d⟩
 ·cases h
def sn(P:Program)(src dst:TypeId)(x:aa):Option aa:=
 match P.underlying src,P.underlying dst,x with
 |some _,D (.int k),.int _ n=>D (.int k (k.wrap n))
 |some _,D .string,.str s=>D (.str s)
 |_,_,_=>I
def JZ{src dst:TypeId}{x v:aa}{c:Value}(h:sn P src dst x=D v)(aD:bB ρ x c)(w:World):∃r,(convert src dst c).run P w= .ok r w/\bB ρ v r:=by
 unfold sn at h;split at h
 ·rename_i b a;cases aD;simp only[bn]at h;subst h;exact⟨_,by simp[convert,run_underlying b,run_underlying a,Conv.intToInt],.int _ _⟩
 ·rename_i b a;cases aD;simp only[bn]at h;subst h;exact⟨_,by simp[convert,run_underlying b,run_underlying a],.str _⟩
 ·cases h
def byteOf:List aa->Option UInt8
 |[.int .u8 n]=>D (UInt8.ofNat n.toNat)
 |_=>I
def bytesOf:List (List aa)->Option (List UInt8)
 |[]=>D []
 |e::r=>match byteOf e,bytesOf r with
  |some b,D l=>D (b::l)
  |_,_=>I
def sm(P:Program)(H:ad)(src dst:TypeId)(x:aa):Option aa:=
 match P.underlying src,P.underlying dst,x with
 |some (.slice e),D .string,.aJ l i n esz _=>
  (match P.underlying e,hg H l i n esz with
  |some (.int .u8),D a=>if esz=1 then(bytesOf a).map .str else I
  |_,_=>I)
 |some (.slice e),D .string,.aB=>(match P.underlying e with|some (.int .u8)=>D (.str [])|_=>I)
 |_,_,_=>I
def CS(f:Value->ByteArray->Sem (ForInStep ByteArray))(aN:∀n s,f (.int .u8 n) s=pure (ForInStep.yield (s.push (UInt8.ofNat n.toNat)))):∀(c:List (List aa)) (bs:List UInt8),bytesOf c=D bs->∀(xs:List Value),bV ρ c.flatten xs->∀(acc:ByteArray),
  (forIn xs acc f).run P w= .ok (acc++⟨bs.toArray⟩) w
 |[],bs,h,xs,aD,acc=>by
  simp[bytesOf]at h;subst h;cases aD;have:acc++(⟨#[]⟩:ByteArray)=acc:=by apply ByteArray.ext;simp
  simp[Sem.run_pure,this]
 |d::c,bs,h,xs,aD,acc=>by
  unfold bytesOf at h;split at h
  ·rename_i b l a az;simp only[bn]at h;subst h;unfold byteOf at a;split at a
   ·rename_i n;simp only[bn]at a;subst a;cases aD with|cons _ x _ j e g=>
    cases e;have i:=CS f aN c l az j g (acc.push (UInt8.ofNat n.toNat));rw[List.forIn_cons];simp only[Sem.run_bind,aN,Sem.run_pure,Result.andThen_ok];rw[i]
    congr 1
    apply ByteArray.ext;simp
   ·cases a
  ·cases h
def JV(p:Rel ρ H w){src dst:TypeId}{x v:aa}{m:Value}(h:sm P H src dst x=D v)(aD:bB ρ x m):∃r,(convert src dst m).run P w= .ok r w/\bB ρ v r:=by
 unfold sm at h;split at h
 ·rename_i e l i n esz cap d b;split at h
  ·rename_i o he z;split at h
   ·rename_i ae;simp only[Option.map_eq_some_iff]at h;obtain⟨bs,s,rfl⟩:=h;cases aD with|aJ _ _ _ _ loc a c az aS aA q=>
    obtain⟨L,M,N,xs,E,k,G,O⟩:=yR p z az;refine⟨.string ⟨bs.toArray⟩,?_,.str _⟩;have B:(loadCells a n).run P w= .ok xs.toArray w:=by
     rw[ae,Nat.mul_one]at k;rw[<-k];refine run_loadCells_list w a xs (λj u g=> ?_);have t:0<c:=by
      rcases Nat.eq_zero_or_pos c with f|f
      ·have K:n=0:=ai;have:xs=[]:=List.eq_nil_of_length_eq_zero ai;subst this;simp at g
      ·exact f
     obtain⟨rfl,_⟩:=q t;rw[kd];exact G j u g
    have A:ByteArray.empty++(⟨bs.toArray⟩:ByteArray)=⟨bs.toArray⟩:=by apply ByteArray.ext;simp
    simp only[convert,Sem.run_bind,run_underlying d,run_underlying b,run_underlying he,Result.andThen_ok,Conv.bytesToString,B];rw[<-Array.forIn_toList];show((Sem.run P (forIn xs ByteArray.empty _) w).andThen _)=_;rw[CS (P:=P) (w:=w) _ (λ_ _=>rfl) o bs s xs E ByteArray.empty,A];rfl
   ·cases h
  ·cases h
 ·rename_i e d b;cases aD;split at h
  ·rename_i he;simp only[bn]at h;subst h;exact⟨.string ⟨#[]⟩,by simp[convert,run_underlying d,run_underlying b,run_underlying he,Conv.bytesToString];rfl,.str []⟩
  ·cases h
 ·cases h
def fw(P:Program)(H:ad)(t:TypeId)(l c:aa):Option (aa×ad):=
 match P.underlying t,l,c with
 |some (.slice e),.int b8 n,.int cg m=>
  (match cD P e,j7 P e,e1 P e with
  |some a,D gF,D z=>
   if b8= .i64/\cg= .i64/\0<=n/\n<=m/\m<=9223372036854775807/\(gF:Int)*m<=281474976710656/\z.cells.length=a/\0<a/\z.cells.all aa.one=C then
    D (.aJ H.next 0 n.toNat a (D m.toNat),H.push (.row Z a (List.replicate m.toNat z.cells)))
   else I
  |_,_,_=>I)
 |_,_,_=>I
def wrap_i64{n:Int}(a:0<=n)(ae:n<=9223372036854775807):IntKind.i64.wrap n=n:=IntWalk.i64_in n ⟨ai,ai⟩
def Kn(G:Rel ρ H w)(aN:ρ H.next=I){t:TypeId}{l c a:aa}{x o:Value}{H':ad}(h:fw P H t l c=D (a,H'))(az:bB ρ l x)(aA:bB ρ c o):
  ∃r A B,(Instr.makeSlice t x o).run P w= .ok r A/\bB B a r/\Step ρ H w B H' A:=by
 unfold fw at h;split at h
 ·rename_i e b8 n cg m hu;cases az;cases aA;split at h
  ·rename_i d gF z b g U;split at h
   ·rename_i K;obtain⟨rfl,rfl,p,ae,ah,ak,s,af,N⟩:=K;simp only[bn,cM]at h;obtain⟨rfl,rfl⟩:=h;obtain⟨k,W,V⟩:=lU U w;have O:∀u∈z.cells,u.one=true:=by simpa using N
    have q:=(V ρ).cells;have j:k.cells.size=d:=by have:=q.length;rw[<-s,this];simp
    have Q:=bV.zt q m.toNat;have R:=s_ G aN (ot:=none) (esz:=d) (els:=List.replicate m.toNat z.cells) (λe he=>by rw[List.eq_of_mem_replicate he];exact s)
     (λe he=>by rw[List.eq_of_mem_replicate he];exact O) Q (tail:=[]) e (λ_ h=>by cases h)
    cases f:P.info? e with
    |none=>unfold cD at b;rw[f]at b;cases b
    |some v=>
     have Y:v.size=d:=by unfold cD at b;rw[f]at b;simpa using b
     have L:v.bytes=gF:=by unfold j7 at g;rw[f]at g;simpa using g
     have hlen:(List.replicate m.toNat k.cells.toList).flatten.length=m.toNat*d:=by simp[j]
     refine⟨.slice (D ⟨w.heap.size,0,I⟩) n.toNat m.toNat,_,_,?_,?_,R⟩
     ·have S:=wrap_i64 p (Int.le_trans ae ah);have T:=wrap_i64 (Int.le_trans p ae) ah;have ab:¬(m<0\/281474976710656<(gF:Int)*m):=ai;have hzero:=Jx k.cells m.toNat ai;rw[j]at hzero;simp only[Instr.makeSlice,Sem.run_bind,run_underlying hu,Result.andThen_ok,asInt,asIntOf,Sem.run_pure,typeInfo,f,L,S,T,run_program];rw[if_neg (by simp;omega)];simp only[Sem.run_bind,run_askRoom,Result.andThen_ok,run_sizeOf b];by_cases i:m.toNat*d=0
      ·simp only[i,if_true];have M:m.toNat=0:=by rcases Nat.mul_eq_zero.1 i with h|h<;>omega
       have E:Array.range 0= #[]:=rfl;simp[newRow,E,M]
      ·simp only[i,if_false,Sem.run_bind,W,Result.andThen_ok,Sem.run_pure,j,hzero];simp[newRow]
     ·refine bB.aJ (ρ:=ρ.dV H.next _) H.next 0 n.toNat (D m.toNat) ⟨w.heap.size,0,d,_⟩ _ m.toNat (Env.fV _ _ _) ai (by simp) (λ_=>⟨by simp,?_⟩)
      simp only[Nat.zero_add,hlen];simp
   ·cases h
  ·cases h
 ·cases h
def yQ(P:Program)(t:TypeId)(x:aa):Option aa:=
 match P.underlying t,x with
 |some (.slice _),.aJ _ _ _ _ (D k)=>D (.int .i64 k)
 |some (.slice _),.aB=>D (.int .i64 0)
 |_,_=>I
def JX{t:TypeId}{x v:aa}{b:Value}(ty:TypeId)(h:yQ P t x=D v)(aD:bB ρ x b)(w:World):∃r,(Builtin.cap_ #[t] ty #[b]).run P w= .ok r w/\bB ρ v r:=by
 unfold yQ at h;split at h
 ·rename_i e l i n esz k hu;cases aD with|aJ _ _ _ _ loc a c az aS aA d=>
  obtain rfl:=aA k rfl;simp only[bn]at h;subst h;exact⟨_,by simp[Builtin.cap_,run_underlying hu,goInt],.int _ _⟩
 ·rename_i e hu;cases aD;simp only[bn]at h;subst h;exact⟨_,by simp[Builtin.cap_,run_underlying hu,goInt],.int _ _⟩
 ·cases h
def Ik(b:Nat):∀(xs a:List Value) (o:Nat) (w:World),w.setCells b o (xs++a)=(w.setCells b o xs).setCells b (o+xs.length) a
 |[],a,o,w=>by simp[World.setCells]
 |x::xs,a,o,w=>by
  simp only[List.cons_append,World.setCells];rw[Ik b xs a,List.length_cons,show o+1+xs.length=o+(xs.length+1) by omega]
def nX(H:ad)(l:Nat)(cs:List aa):Nat->Nat->Option ad
 |_,0=>D H
 |i,k+1=>match H.get l with
  |some (.row Z esz els)=>(match els[i]? with
   |some e=>if cs.length=esz then(nX (H.set l (.row Z esz (els.set i (eI e 0 cs)))) l cs (i+1) k)else I
   |none=>I)
  |_=>I
def C9{l:Nat}{loc:Loc}{cs:List aa}{xs:List Value}(b:bV ρ cs xs)(ae:∀v∈cs,v.one=C)(az:ρ l=D loc)(hlen:cs.length=loc.esz):
  ∀(k i:Nat) (H H':ad) (w:World),Rel ρ H w->nX H l cs i k=D H'->Step ρ H w ρ H' (w.setCells loc.block (loc.off+i*loc.esz) (List.replicate k xs).flatten)
 |0,i,H,H',w,a,h=>by
  simp only[nX,bn]at h;subst h;simpa [World.setCells]using Step.refl a
 |k+1,i,H,H',w,a,h=>by
  unfold nX at h;split at h
  ·rename_i esz els d;split at h
   ·rename_i e he;split at h
    ·rename_i aA;have s1:=Ju a (ot:=none) d az he (c:=0) (cs:=cs) ai ae b;have s2:=C9 b ae az hlen k (i+1) _ H' _ s1.rel h;have f:=s1.trans s2;rw[List.replicate_succ,List.flatten_cons,Ik,<-b.length,hlen,show loc.off+i*loc.esz+loc.esz=loc.off+(i+1)*loc.esz by rw[Nat.succ_mul];omega];exact f
    ·cases h
   ·cases h
  ·cases h
def Lv{l:Nat}{cs:List aa}:∀{k i:Nat} {H H':ad},0<k->nX H l cs i k=D H'->∃esz els,H.get l=D (.row Z esz els)/\cs.length=esz
 |0,_,_,_,h,_=>ai
 |k+1,i,H,H',_,h=>by
  unfold nX at h;split at h
  ·rename_i esz els a;split at h
   ·split at h
    ·rename_i aA;exact⟨esz,els,a,aA⟩
    ·cases h
   ·cases h
  ·cases h
def vx(P:Program)(H:ad)(ts:List TypeId)(x:aa):Option ad:=
 match ts with
 |[t]=>(match P.underlying t with
  |some (.slice e)=>(match x with
   | .aB=>D H
   | .aJ l i n _ _=>if n=0 then D H else(match e1 P e with
    |some z=>if z.cells.all aa.one=C then nX H l z.cells i n else I
    |none=>I)
   |_=>I)
  |_=>I)
 |_=>I
def JY(d:Rel ρ H w){ts:List TypeId}{x:aa}{G:Value}{H':ad}(ty:TypeId)(h:vx P H ts x=D H')(aD:bB ρ x G):
  ∃E,(Builtin.clear_ ts.toArray ty #[G]).run P w= .ok (.tuple #[]) E/\Step ρ H w ρ H' E:=by
 unfold vx at h;split at h
 ·rename_i t;split at h
  ·rename_i e hu;split at h
   ·cases aD;simp only[bn]at h;subst h;exact⟨w,by simp[Builtin.clear_,run_underlying hu],Step.refl d⟩
   ·rename_i l i n esz cap;cases aD with|aJ _ _ _ _ loc a c az aS aA K=>
    split at h
    ·rename_i g;subst g;simp only[bn]at h;subst h;exact⟨w,by simp[Builtin.clear_,run_underlying hu],Step.refl d⟩
    ·rename_i g;split at h
     ·rename_i z ag;split at h
      ·rename_i T;have s:∀v∈z.cells,v.one=true:=List.all_eq_true.1 T;obtain⟨y,Y,af⟩:=lU ag w;have f:=(af ρ).cells;obtain⟨al,els,Q,L⟩:=Lv ai h;obtain⟨aj,R,N,arr,t0,am,o,p,ao⟩:=d.row _ _ _ _ Q;obtain rfl:loc=aj:=Option.some.inj (az.symm.trans R);have ap:=p.1;have O:=p.2 rfl;have hlen:z.cells.length=loc.esz:=by rw[L,N]
       have M:0<c:=ai;obtain⟨rfl,an⟩:=K M;have B:=C9 f s az hlen n i H H' w d h;have ab:y.cells.toList.length=loc.esz:=by rw[<-f.length];exact hlen
       have k:((List.replicate n y.cells.toList).flatten).length=n*loc.esz:=by simp[ab]<;>rfl
       have q:∀j,j<n*loc.esz->loc.off+i*loc.esz+j<arr.size:=by
        intro j b;have ae:(i+c)*loc.esz=i*loc.esz+c*loc.esz:=Nat.add_mul _ _ _;have ah:n*loc.esz<=c*loc.esz:=Nat.mul_le_mul_right _ aS;omega
       have A:=run_storeCells_cells (P:=P) loc.block (loc.off+i*loc.esz) (List.replicate n y.cells.toList).flatten 0 w
        (λj b=>by rw[k]at b;simp[World.cell?,o,q j b])
        (λj b=>by
         rw[k]at b;have:=O _ (q j b);simp only[World.frozen?,o,Nat.add_zero];simpa using this)
        (λu hu=>by
         obtain⟨aq,S,V⟩:=List.mem_flatten.1 hu;obtain rfl:=List.eq_of_mem_replicate S;obtain⟨j,b⟩:=List.getElem?_of_mem V;have r:j<z.cells.length:=by
          rcases Nat.lt_or_ge j y.cells.toList.length with h|h
          ·omega
          ·rw[List.getElem?_eq_none h]at b;cases b
         obtain⟨ak,U,W⟩:=f.get j _ (List.getElem?_eq_getElem r);obtain rfl:u=ak:=Option.some.inj (b.symm.trans U);exact W.Az (s _ (List.getElem_mem r)))
       rw[<-BO]at A B;refine⟨_,?_,B⟩;cases n with
       |zero=>omega
       |succ m=>
        simp only[Builtin.clear_];simp[run_underlying hu,Y];rw[A];simp
      ·cases h
     ·cases h
   ·cases h
  ·cases h
 ·cases h
end
section
variable {P:Program}{ρ:Env}{H:ad}{w:World}
def l2(d:TypeDesc)(a b:aa):Option Bool:=
 match d,a,b with
 | .int _,.int k x,.int c y=>if k=c then D (x==y)else I
 | .string,.str x,.str y=>D (x==y)
 | .bool,.bool x,.bool y=>D (x==y)
 |_,_,_=>I
def kX(d:TypeDesc)(k:aa):List (aa×aa)->Nat->Option (Option (Nat×aa))
 |[],_=>D I
 |e::es,i=>match l2 d k e.1 with
  |some C=>D (D (i,e.2))
  |some Z=>kX d k es (i+1)
  |none=>I
def ED{d:TypeDesc}{a b:aa}{ck b':Value}{r:Bool}(h:l2 d a b=D r)(c:bB ρ a ck)(e:bB ρ b b'):Instr.sameNow d ck b'=D r:=by
 unfold l2 at h;split at h
 ·cases c;cases e;split at h
  ·rename_i f;subst f;simpa [Instr.sameNow]using h
  ·cases h
 ·cases c;cases e;simp only[bn]at h;subst h;simp[Instr.sameNow,Bz]
 ·cases c;cases e;simpa [Instr.sameNow]using h
 ·cases h
inductive sh(ρ:Env):Option (Nat×aa)->Option (Nat×Value)->Prop where
 |none:sh ρ none none
 |some (i:Nat) (v:aa) (x:Value) (h:bB ρ v x):sh ρ (some (i,v)) (some (i,x))
def ss{d:TypeDesc}{k:aa}{g:Value}(c:bB ρ k g):∀(es:List (aa×aa)) (ents:List MapEntry) (i:Nat) (r:Option (Nat×aa)),kX d k es i=D r->
  bV ρ (es.map (·.1)) (ents.map (·.key))->bV ρ (es.map (·.2)) (ents.map (·.val))->∃dj,Instr.findNow d g ents i=D dj/\sh ρ r dj/\∀j v,r=D (j,v)->i<=j/\j<i+es.length/\∃e,es[j-i]? =D e/\l2 d k e.1=D C
 |[],ents,i,r,h,ae,ah=>by
  simp[kX]at h;subst h;have:ents=[]:=by
   have:=ae.length;simp at this;exact List.eq_nil_of_length_eq_zero this.symm
  subst this;exact⟨I,rfl,.none,λj v h=>by cases h⟩
 |e::es,[],i,r,h,ae,ah=>by have:=ae.length;simp at this
 |e::es,m::ents,i,r,h,ae,ah=>by
  simp only[List.map_cons]at ae ah;cases ae with|cons _ _ _ _ f n=>
  cases ah with|cons _ _ _ _ l o=>
  unfold kX at h;unfold Instr.findNow;split at h
  ·rename_i b;simp only[bn]at h;subst h;rw[ED b c f];exact⟨_,rfl,.some i _ _ l,λj v a=>by
    simp only[bn,cM]at a;obtain⟨rfl,_⟩:=a;exact⟨b4 _,by simp,e,by simp,b⟩⟩
  ·rename_i b;rw[ED b c f];obtain⟨dj,ak,au,q⟩:=ss c es ents (i+1) r h n o;refine⟨dj,ak,au,λj v a=> ?_⟩;obtain⟨u,w,p,s,t⟩:=q j v a;refine⟨ai,by simp;omega,p,?_,t⟩;rw[show j-i=(j-(i+1))+1 by omega];simpa using s
  ·cases h
def plainKey(d:TypeDesc):Bool:=
 match d with
 | .int _| .string| .bool=>C
 |_=>Z
def vM{t:TypeId}{d:TypeDesc}(hu:P.underlying t=D d)(a:plainKey d=C)(empty:Bool)(v:Value)(n:Nat)(w:World):(Instr.checkKey empty (n+1) t v).run P w= .ok () w:=by
 unfold Instr.checkKey;simp only[Sem.run_bind,run_underlying hu,Result.andThen_ok];cases d<;>simp[plainKey]at a<;>rfl
def ma(P:Program)(d:TypeDesc)(k:aa):Bool:=
 match d,k with
 | .array 2 e,.agg cs=>(match P.underlying e with|some (.int _)=>C|_=>Z)&&(match cD P e with|some n=>(apart P e cs (0*n)).isSome&&(apart P e cs (1*n)).isSome|none=>Z)
 |_,_=>Z
def zc{t:TypeId}{d:TypeDesc}{k:aa}{b:Value}(hu:P.underlying t=D d)(a:ma P d k=C)(g:bB ρ k b)(empty:Bool)(n:Nat)(w:World):(Instr.checkKey empty (n+2) t b).run P w= .ok () w:=by
 unfold ma at a;split at a
 ·rename_i e cs;simp only[Bool.and_eq_true]at a;obtain⟨ae,ah⟩:=a;split at ae
  ·rename_i i he;split at ah
   ·rename_i m hm;simp only[Bool.and_eq_true]at ah;obtain⟨a0,ak⟩:=Option.isSome_iff_exists.1 ah.1;obtain⟨h,au⟩:=Option.isSome_iff_exists.1 ah.2;cases g with|agg _ xs aD=>
    obtain⟨j,c,_⟩:=lS ak aD w;obtain⟨x1,f,_⟩:=lS au aD w;have aA:∀v:Value,(Instr.checkKey empty (n+1) e v).run P w= .ok () w:=λv=>vM he rfl empty v n w
    unfold Instr.checkKey;simp only[Sem.run_bind,run_underlying hu,Result.andThen_ok];rw[Std.Legacy.Range.forIn_eq_forIn_range'];simp only[Nat.zero_mul,Nat.one_mul]at c f;simp[List.range',run_sizeOf hm,c,f,aA]
   ·cases ah
  ·cases ae
 ·cases a
def ke(P:Program)(a:TypeId)(k:aa):List (aa×aa)->Nat->Option (Option (Nat×aa))
 |[],_=>D I
 |e::es,i=>match gY P 10000 a k e.1 with
  |some C=>D (D (i,e.2))
  |some Z=>ke P a k es (i+1)
  |none=>I
def B7{b:TypeId}{k:aa}{a:Value}(c:bB ρ k a)(w:World):∀(es:List (aa×aa)) (ents:List MapEntry) (i:Nat) (r:Option (Nat×aa)),ke P b k es i=D r->
  bV ρ (es.map (·.1)) (ents.map (·.key))->bV ρ (es.map (·.2)) (ents.map (·.val))->∃dj,(Instr.findAsking b a ents i).run P w= .ok dj w/\sh ρ r dj
 |[],ents,i,r,h,ae,ah=>by
  simp[ke]at h;subst h;have:ents=[]:=by
   have:=ae.length;simp at this;exact List.eq_nil_of_length_eq_zero this.symm
  subst this;exact⟨I,rfl,.none⟩
 |e::es,[],i,r,h,ae,ah=>by have:=ae.length;simp at this
 |e::es,m::ents,i,r,h,ae,ah=>by
  simp only[List.map_cons]at ae ah;cases ae with|cons _ _ _ _ f j=>
  cases ah with|cons _ _ _ _ g l=>
  unfold ke at h;unfold Instr.findAsking;split at h
  ·rename_i d;simp only[bn]at h;subst h;have he:(Op.equal b a m.key).run P w= .ok C w:=sD (ρ:=ρ) w _ _ _ _ _ _ _ d c f;exact⟨_,by simp[he],.some i _ _ g⟩
  ·rename_i d;have he:(Op.equal b a m.key).run P w= .ok Z w:=sD (ρ:=ρ) w _ _ _ _ _ _ _ d c f;obtain⟨dj,ak,au⟩:=B7 c w es ents (i+1) r h j l;exact⟨dj,by simp[he,ak],au⟩
  ·cases h
def NF{n:Nat}{e:TypeId}{a:Value}:∀(ents:List MapEntry) (i:Nat),Instr.findNow (.array n e) a ents i=match ents with|[]=>D I|_=>I
 |[],_=>rfl
 |m::_,i=>by cases a<;>rfl
def zr{b:TypeId}{d:TypeDesc}{k:aa}{c:Value}(hu:P.underlying b=D d)(a:ma P d k=C)(f:bB ρ k c)(w:World){es:List (aa×aa)}{ents:List MapEntry}{r:Option (Nat×aa)}(h:ke P b k es 0=D r)
  (ae:bV ρ (es.map (·.1)) (ents.map (·.key))) (ah:bV ρ (es.map (·.2)) (ents.map (·.val))):∃dj,(Instr.findKey b c ents).run P w= .ok dj w/\sh ρ r dj:=by
 obtain⟨n,e,rfl⟩:∃n e,d= .array n e:=by
  unfold ma at a;split at a
  ·exact⟨_,_,rfl⟩
  ·cases a
 obtain⟨dj,ak,au⟩:=B7 (P:=P) f w es ents 0 r h ae ah;refine⟨dj,?_,au⟩;unfold Instr.findKey;simp only[Sem.run_bind,run_underlying hu,Result.andThen_ok,NF];cases ents with
 |nil=>exact ak
 |cons m ents=>exact ak
def hh(P:Program)(H:ad)(t:TypeId)(x k:aa)(a:Bool):Option aa:=
 match P.underlying t with
 |some (.map b c)=>
  (match P.underlying b,e1 P c with
  |some d,D z=>
   if plainKey d=C then
    (match(match x with| .hv=>D []| .map l=>(match H.get l with|some (.map es)=>D es|_=>I)|_=>I)with
    |some es=>
     (match kX d k es 0 with
     |some (D (_,v))=>D (if a then .tuple [v,.bool C]else v)
     |some I=>D (if a then .tuple [z,.bool Z]else z)
     |none=>I)
    |none=>I)
   else if ma P d k=C then
    (match(match x with| .hv=>D []| .map l=>(match H.get l with|some (.map es)=>D es|_=>I)|_=>I)with
    |some es=>
     (match ke P b k es 0 with
     |some (D (_,v))=>D (if a then .tuple [v,.bool C]else v)
     |some I=>D (if a then .tuple [z,.bool Z]else z)
     |none=>I)
    |none=>I)
   else I
  |_,_=>I)
 |_=>I
def Kk(K:Rel ρ H w){t:TypeId}{x k v:aa}{A n:Value}{ok:Bool}(h:hh P H t x k ok=D v)(aD:bB ρ x A)(m:bB ρ k n):
  ∃r,(Instr.lookup t A n ok).run P w= .ok r w/\bB ρ v r:=by
 unfold hh at h;split at h
 ·rename_i N Q hu;split at h
  ·rename_i d z b L;split at h
   ·rename_i f;split at h
    ·rename_i es a;obtain⟨j,u,s⟩:=lU L w;have B:∃ents:Array MapEntry,bV ρ (es.map (·.1)) (ents.toList.map (·.key))/\bV ρ (es.map (·.2)) (ents.toList.map (·.val))/\
       ∀dj:Option (Nat×Value),Instr.findNow d n ents.toList 0=D dj->(Instr.lookup t A n ok).run P w=
       .ok (match dj with|some (_,v)=>(if ok then .tuple #[v,.bool C]else v)|none=>(if ok then .tuple #[j,.bool Z]else j)) w:=by
      split at a
      ·cases aD;simp only[bn]at a;subst a;refine⟨#[],by simpa using bV.nil,by simpa using bV.nil,λdj g=> ?_⟩;unfold Instr.lookup;simp only[Sem.run_bind,run_underlying hu,Result.andThen_ok,Sem.run_pure];rw[vM b f];simp only[Result.andThen_ok,Instr.findKey,Sem.run_bind,run_underlying b,g,Sem.run_pure];cases dj with
       |none=>simp[u]
       |some p=>obtain⟨i,v⟩:=p;simp
      ·cases aD with|map l loc az=>
       split at a
       ·rename_i es' E;simp only[bn]at a;subst a;obtain⟨ents,clock,M,G,ae,ah⟩:=sJ (P:=P) K E az;refine⟨ents,ae,ah,λdj g=> ?_⟩;unfold Instr.lookup;simp only[Sem.run_bind,run_underlying hu,Result.andThen_ok,Sem.run_pure,G];rw[vM b f];simp only[Result.andThen_ok,Instr.findKey,Sem.run_bind,run_underlying b,g,Sem.run_pure];cases dj with
        |none=>simp[u]
        |some p=>obtain⟨i,v⟩:=p;simp
       ·cases a
      ·cases a
     obtain⟨ents,ae,ah,o⟩:=B;split at h
     ·rename_i i O aN;simp only[bn]at h;subst h;obtain⟨dj,c,e,_⟩:=ss m es ents.toList 0 _ aN ae ah;cases e with|some _ _ y q=>
      refine⟨_,o _ c,?_⟩;cases ok
      ·exact q
      ·exact .tuple _ [y,.bool C] (.cons _ _ _ _ q (.cons _ _ _ _ (.bool _) .nil))
     ·rename_i aN;simp only[bn]at h;subst h;obtain⟨dj,c,e,_⟩:=ss m es ents.toList 0 _ aN ae ah;cases e;refine⟨_,o _ c,?_⟩;cases ok
      ·exact s ρ
      ·exact .tuple _ [j,.bool Z] (.cons _ _ _ _ (s ρ) (.cons _ _ _ _ (.bool _) .nil))
     ·cases h
    ·cases h
   ·split at h
    ·rename_i f;split at h
     ·rename_i es a;obtain⟨j,u,s⟩:=lU L w;have B:∃ents:Array MapEntry,bV ρ (es.map (·.1)) (ents.toList.map (·.key))/\bV ρ (es.map (·.2)) (ents.toList.map (·.val))/\
        ∀dj:Option (Nat×Value),(Instr.findKey N n ents.toList).run P w= .ok dj w->(Instr.lookup t A n ok).run P w=
        .ok (match dj with|some (_,v)=>(if ok then .tuple #[v,.bool C]else v)|none=>(if ok then .tuple #[j,.bool Z]else j)) w:=by
       split at a
       ·cases aD;simp only[bn]at a;subst a;refine⟨#[],by simpa using bV.nil,by simpa using bV.nil,λdj g=> ?_⟩;unfold Instr.lookup;simp only[Sem.run_bind,run_underlying hu,Result.andThen_ok,Sem.run_pure];rw[zc b f m];simp only[Result.andThen_ok,g];cases dj with
        |none=>simp[u]
        |some p=>obtain⟨i,v⟩:=p;simp
       ·cases aD with|map l loc az=>
        split at a
        ·rename_i es' E;simp only[bn]at a;subst a;obtain⟨ents,clock,M,G,ae,ah⟩:=sJ (P:=P) K E az;refine⟨ents,ae,ah,λdj g=> ?_⟩;unfold Instr.lookup;simp only[Sem.run_bind,run_underlying hu,Result.andThen_ok,Sem.run_pure,G];rw[zc b f m];simp only[Result.andThen_ok,g];cases dj with
         |none=>simp[u]
         |some p=>obtain⟨i,v⟩:=p;simp
        ·cases a
       ·cases a
      obtain⟨ents,ae,ah,o⟩:=B;split at h
      ·rename_i i O aN;simp only[bn]at h;subst h;obtain⟨dj,c,e⟩:=zr b f m w aN ae ah;cases e with|some _ _ y q=>
       refine⟨_,o _ c,?_⟩;cases ok
       ·exact q
       ·exact .tuple _ [y,.bool C] (.cons _ _ _ _ q (.cons _ _ _ _ (.bool _) .nil))
      ·rename_i aN;simp only[bn]at h;subst h;obtain⟨dj,c,e⟩:=zr b f m w aN ae ah;cases e;refine⟨_,o _ c,?_⟩;cases ok
       ·exact s ρ
       ·exact .tuple _ [j,.bool Z] (.cons _ _ _ _ (s ρ) (.cons _ _ _ _ (.bool _) .nil))
      ·cases h
     ·cases h
    ·cases h
  ·cases h
 ·cases h
def yX(H:ad):aa×ad:=(.map H.next,H.push (.map []))
def Kl(c:Rel ρ H w)(aN:ρ H.next=I)(t:TypeId):∃r a b,(Instr.makeMap t I).run P w= .ok r a/\bB b (yX H).1 r/\Step ρ H w b (yX H).2 a:=by
 have d:=Gi c aN (.map []) rfl (.map #[] 0) ⟨w.heap.size,0,0,0⟩ rfl (λ_ _ _ h=>by cases h) (λes h=>by
  simp only[bL.map.injEq]at h;subst h;exact⟨#[],0,heap_alloc_new _ _,by simpa using bV.nil,by simpa using bV.nil⟩) (λ_ _ _ h=>by cases h)
 refine⟨.map (D w.heap.size),_,_,?_,.map H.next ⟨w.heap.size,0,0,0⟩ (Env.fV _ _ _),d⟩;simp[Instr.makeMap]
def Bo(g:Rel ρ H w){l:Nat}{es es':List (aa×aa)}(i:H.get l=D (.map es)){loc:Loc}(az:ρ l=D loc){ents:Array MapEntry}{clock:Nat}
  (ae:bV ρ (es'.map (·.1)) (ents.toList.map (·.key))) (ah:bV ρ (es'.map (·.2)) (ents.toList.map (·.val))):
  Step ρ H w ρ (H.set l (.map es')) {w with heap:=w.heap.setIfInBounds loc.block (.map ents clock)}:=by
 have n:=ad.b6 i;obtain⟨d,f,V,U,E,_,_⟩:=g.map _ _ i;obtain rfl:loc=d:=Option.some.inj (az.symm.trans f);have G:=iX E;have m:∀k,k≠loc.block->({w with heap:=w.heap.setIfInBounds loc.block (.map ents clock)}:World).heap[k]? =w.heap[k]? :=λk K=>by
  show(w.heap.setIfInBounds loc.block _)[k]? =_;rw[Array.getElem?_setIfInBounds,if_neg (Ne.symm K)]
 have j:∀a d,H.live a->a≠l->ρ a=D d->d.block≠loc.block:=λa d h ca e heq=>
  g.apart l a loc d (.inr (.inl ⟨_,i⟩)) h (Ne.symm ca) az e heq.symm
 have q:∀a,(H.set l (.map es')).rw a->H.rw a:=by
  intro a h;by_cases c:l=a
  ·subst c;exact .inr (.inl ⟨_,i⟩)
  ·simpa [ad.rw,ad.cW c]using h
 have L:∀a,(H.set l (.map es')).live a->H.live a:=by
  intro a h;by_cases c:l=a
  ·subst c;exact .inr (.inl ⟨_,i⟩)
  ·simpa [ad.live,ad.cW c]using h
 refine⟨ρ.le_refl,b4 _,λ_ _=>rfl,⟨?_,?_,?_,?_⟩,rfl,rfl,rfl,by simp,?_,?_,ad.AT rfl⟩
 ·intro a Y A x h;by_cases c:l=a
  ·subst c;rw[ad.dA n]at h;cases h
  ·rw[ad.cW c]at h;obtain⟨d,f,S,s,r,B,o,p,T⟩:=g.row _ _ _ _ h;exact⟨d,f,S,s,r,B,by rw[m _ (j a d (.inl ⟨_,_,_,h⟩) (Ne.symm c) f)];exact o,p,T⟩
 ·intro a W h;by_cases c:l=a
  ·subst c;rw[ad.dA n]at h;simp only[bn,bL.map.injEq]at h;subst h;refine⟨loc,az,ents,clock,?_,ae,ah⟩;show(w.heap.setIfInBounds loc.block _)[loc.block]? =_;rw[Array.getElem?_setIfInBounds,if_pos rfl,if_pos G]
  ·rw[ad.cW c]at h;obtain⟨d,f,z,t,o,p⟩:=g.map _ _ h;exact⟨d,f,z,t,by rw[m _ (j a d (.inr (.inl ⟨_,h⟩)) (Ne.symm c) f)];exact o,p⟩
 ·intro a r A x h;by_cases c:l=a
  ·subst c;rw[ad.dA n]at h;cases h
  ·rw[ad.cW c]at h;obtain⟨d,f,N⟩:=g.dz _ _ _ _ h;exact⟨d,f,N.frame ρ.le_refl (m _ (j a d (.inr (.inr ⟨_,_,_,h⟩)) (Ne.symm c) f))⟩
 ·intro O P Q R ae ah j u v;exact g.apart O P Q R (q _ ae) (L _ ah) j u v
 ·intro b _ M;refine m b ?_;rintro rfl;exact M ⟨l,loc,.inr (.inl ⟨_,i⟩),az,rfl⟩
 ·rintro b ⟨a,d,ae,ah,ak⟩;exact .inl ⟨a,d,q _ ae,ah,ak⟩
def iN(P:Program)(H:ad)(t:TypeId)(m k v:aa):Option ad:=
 match P.underlying t,m with
 |some (.map a _),.map l=>
  (match P.underlying a,H.get l with
  |some d,D (.map es)=>
   if plainKey d=C then
    (match kX d k es 0 with
    |some (D (i,_))=>D (H.set l (.map (es.set i (k,v))))
    |some I=>D (H.set l (.map (es++[(k,v)])))
    |none=>I)
   else if ma P d k=C then
    (match ke P a k es 0 with
    |some I=>D (H.set l (.map (es++[(k,v)])))
    |_=>I)
   else I
  |_,_=>I)
 |_,_=>I
def Zz{d:TypeDesc}{a b:aa}{ck b':Value}(h:l2 d a b=D C)(c:bB ρ a ck)(e:bB ρ b b')(n:Nat):Instr.sameBits (n+1) b' ck=true:=by
 unfold l2 at h;split at h
 ·cases c;cases e;split at h
  ·rename_i f;subst f;simp at h;subst h;simp[Instr.sameBits]
  ·cases h
 ·cases c;cases e;simp at h;subst h;simp[Instr.sameBits,Bz]
 ·cases c;cases e;simp at h;subst h;simp[Instr.sameBits]
 ·cases h
def P3(es:List (aa×aa))(i:Nat)(k v:aa):(es.set i (k,v)).map (·.1)=(es.map (·.1)).set i k:=by simp[List.map_set]
def P4(es:List (aa×aa))(i:Nat)(k v:aa):(es.set i (k,v)).map (·.2)=(es.map (·.2)).set i v:=by simp[List.map_set]
def Cd(n:Rel ρ H w){t:TypeId}{m k v:aa}{eU a b:Value}{H':ad}(h:iN P H t m k v=D H')(hm:bB ρ m eU)(c:bB ρ k a)(E:bB ρ v b):
  ∃M,(Instr.mapUpdate t eU a b).run P w= .ok () M/\Step ρ H w ρ H' M:=by
 unfold iN at h;split at h
 ·rename_i Y V l hu;cases hm with|map _ loc az=>
  split at h
  ·rename_i d es s q;split at h
   ·rename_i x;obtain⟨ents,clock,A,B,ae,ah⟩:=sJ (P:=P) n q az;have z:∀o:Obj,(setObj loc.block o).run P w= .ok () {w with heap:=w.heap.setIfInBounds loc.block o}:=λo=>by simp[setObj,Sem.run,A]
    have K:∀dj,Instr.findNow d a ents.toList 0=D dj->(Instr.mapUpdate t (.map (D loc.block)) a b).run P w=
      (match dj with
       |some (i,_)=>(do
        let key<-Instr.keyThatStays (((ents[i]?).map (·.key)).getD a) a
        setObj loc.block (.map (ents.modify i λe=>{e with key,val:=b}) clock):Sem Unit).run P w
       |none=>(setObj loc.block (.map (ents.push {key:=a,val:=b,born:=clock}) (clock+1))).run P w):=by
     intro dj S;unfold Instr.mapUpdate;simp only[Sem.run_bind,run_underlying hu,Result.andThen_ok,B];rw[vM s x];simp only[Result.andThen_ok,Instr.findKey,Sem.run_bind,run_underlying s,S,Sem.run_pure];cases dj with
     |none=>rfl
     |some p=>obtain⟨i,v⟩:=p;simp only[Sem.run_bind]
    split at h
    ·rename_i i v0 aN;simp only[bn]at h;subst h;obtain⟨dj,f,g,G⟩:=ss c es ents.toList 0 _ aN ae ah;cases g with|some _ _ y W=>
     obtain⟨_,N,e,he,T⟩:=G i v0 rfl;simp only[Nat.sub_zero,Nat.zero_add]at he N;have hlen:=ae.length;simp only[List.length_map,Array.length_toList]at hlen;have u:i<ents.size:=ai;obtain⟨L,O,R⟩:=ae.get i e.1 (by simp[he]);have Q:ents[i].key=L:=by simpa [u]using O
     have U:(Instr.keyThatStays (((ents[i]?).map (·.key)).getD a) a).run P w= .ok a w:=by
      unfold Instr.keyThatStays;have:((ents[i]?).map (·.key)).getD a=L:=by simp[u,Q]
      rw[this,if_pos (Zz T c R 9999)];rfl
     refine⟨_,?_,Bo n q az (es':=es.set i (k,v)) (ents:=ents.modify i λe=>{e with key:=a,val:=b}) (clock:=clock) ?_ ?_⟩
     ·rw[K _ f];simp only[Sem.run_bind,U,Result.andThen_ok];exact z _
     ·rw[P3];have:(ents.modify i λe=>{e with key:=a,val:=b}).toList.map (·.key)=(ents.toList.map (·.key)).set i a:=by
       apply List.ext_getElem?;intro j;by_cases r:i=j
       ·subst r;simp[u]
       ·simp[r]
      rw[this];exact ae.set c i
     ·rw[P4];have:(ents.modify i λe=>{e with key:=a,val:=b}).toList.map (·.val)=(ents.toList.map (·.val)).set i b:=by
       apply List.ext_getElem?;intro j;by_cases r:i=j
       ·subst r;simp[u]
       ·simp[r]
      rw[this];exact ah.set E i
    ·rename_i aN;simp only[bn]at h;subst h;obtain⟨dj,f,g,G⟩:=ss c es ents.toList 0 _ aN ae ah;cases g;refine⟨_,?_,Bo n q az (es':=es++[(k,v)]) (ents:=ents.push {key:=a,val:=b,born:=clock}) (clock:=clock+1) ?_ ?_⟩
     ·rw[K _ f];exact z _
     ·simpa using ae.append (.cons _ _ _ _ c .nil)
     ·simpa using ah.append (.cons _ _ _ _ E .nil)
    ·cases h
   ·split at h
    ·rename_i x;obtain⟨ents,clock,A,B,ae,ah⟩:=sJ (P:=P) n q az;have z:∀o:Obj,(setObj loc.block o).run P w= .ok () {w with heap:=w.heap.setIfInBounds loc.block o}:=λo=>by simp[setObj,Sem.run,A]
     split at h
     ·rename_i aN;simp only[bn]at h;subst h;obtain⟨dj,f,g⟩:=zr s x c w aN ae ah;cases g;refine⟨_,?_,Bo n q az (es':=es++[(k,v)]) (ents:=ents.push {key:=a,val:=b,born:=clock}) (clock:=clock+1) ?_ ?_⟩
      ·unfold Instr.mapUpdate;simp only[Sem.run_bind,run_underlying hu,Result.andThen_ok,B];rw[zc s x c];simp only[Result.andThen_ok,f];exact z _
      ·simpa using ae.append (.cons _ _ _ _ c .nil)
      ·simpa using ah.append (.cons _ _ _ _ E .nil)
     ·cases h
    ·cases h
  ·cases h
 ·cases h
