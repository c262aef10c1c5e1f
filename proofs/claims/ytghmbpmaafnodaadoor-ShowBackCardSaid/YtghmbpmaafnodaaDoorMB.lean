/-
  Texts of one proof, laid together: Hv7 Hv8 Hv9 Hv10.
-/
import Derived.Test.YtghmbpmaafnodaaDoorMA
import Derived.Deep.AppendSrc
set_option linter.unusedVariables false
set_option linter.unusedSimpArgs false
set_option linter.defProp false
open Option renaming some→D,none→C
open Bool renaming true→X,false→U
namespace Go.bn
section
variable {P:Program}{ρ:Env}{H:af}{w:World}
def c0(P:Program)(t:TypeId)(x:aa)(f:Nat):Option aa:=
 match P.underlying t,x with
 |some (.struct a),.agg cs=>(match a[f]? with|some d=>apart P d.type cs d.offset|none=>C)
 |_,_=>C
def LB{t:TypeId}{x v:aa}{a:Value}{f:Nat}(h:c0 P t x f=D v)(k:bq ρ x a)(w:World):∃r,(Instr.field t a f).run P w= .ok r w/\bq ρ v r:=by
 unfold c0 at h;split at h
 ·rename_i l cs hu;cases k with|agg _ xs i=>
  split at h
  ·rename_i d j;obtain⟨r,c,e⟩:=oC h i w;exact⟨r,by simp[Instr.field,run_underlying hu,j,asAgg,c],e⟩
  ·cases h
 ·cases h
def aJ(P:Program)(t:TypeId)(x:aa)(f:Nat):Option aa:=
 match P.underlying t,x with
 |some (.struct a),.ptr l i c=>(match a[f]? with|some d=>(match cQ P d.type with|some n=>if n=0 then C else D (.ptr l i (c+d.offset))|none=>C)|none=>C)
 |_,_=>C
def LA{t:TypeId}{x v:aa}{a:Value}{f:Nat}(h:aJ P t x f=D v)(o:bq ρ x a)(w:World):∃r,(Instr.fieldAt t a f).run P w= .ok r w/\bq ρ v r:=by
 unfold aJ at h;split at h
 ·rename_i p l i c hu;cases o with|ptr _ _ _ loc k=>
  split at h
  ·rename_i d j;split at h
   ·rename_i n m;split at h
    ·cases h
    ·rename_i e;simp only[aZ]at h;subst h;refine⟨_,?_,.ptr l i (c+d.offset) loc k⟩;simp[Instr.fieldAt,run_underlying hu,j,Instr.sureAddr,fieldPlace,run_sizeOf m,e,l7,Nat.add_assoc]
   ·cases h
  ·cases h
 ·cases h
def cF(P:Program)(t:TypeId)(x d:aa):Option aa:=
 match P.underlying t,x,d with
 |some (.slice e),.aG l i n esz _,.int _ k=>(match cQ P e with|some a=>if a=esz/\0<=k/\k<n then D (.ptr l (i+k.toNat) 0)else C|none=>C)
 |some (.array len e),.ptr l i c,.int _ k=>(match cQ P e with|some a=>if 0<=k/\k<len then D (.ptr l i (c+k.toNat*a))else C|none=>C)
 |_,_,_=>C
def LL{t:TypeId}{x u v:aa}{A y:Value}(h:cF P t x u=D v)(s:bq ρ x A)(q:bq ρ u y)(w:World):∃r,(Instr.indexAt t A y).run P w= .ok r w/\bq ρ v r:=by
 unfold cF at h;split at h
 ·rename_i e l i n esz cap E k hu;cases q;cases s with|aG _ _ _ _ loc a c o G F B=>
  split at h
  ·rename_i z p;split at h
   ·rename_i m;obtain⟨rfl,d,j⟩:=m;simp only[aZ]at h;subst h;obtain⟨rfl,_⟩:=B ae;refine⟨_,?_,.ptr l (i+k.toNat) 0 loc o⟩;have aq:loc.off+i*loc.esz+k.toNat*loc.esz=loc.off+(i+k.toNat)*loc.esz+0:=by rw[Nat.add_mul];omega
    simp[Instr.indexAt,asIntOf,run_underlying hu,d,j,run_sizeOf p,l7]
   ·cases h
  ·cases h
 ·rename_i len e l i c E k hu;cases q;cases s with|ptr _ _ _ loc o=>
  split at h
  ·rename_i z p;split at h
   ·rename_i m;obtain⟨d,j⟩:=m;simp only[aZ]at h;subst h;refine⟨_,?_,.ptr l i (c+k.toNat*z) loc o⟩;simp[Instr.indexAt,asIntOf,run_underlying hu,Instr.sureAddr,d,j,run_sizeOf p,l7,Nat.add_assoc]
   ·cases h
  ·cases h
 ·cases h
def fC(P:Program)(t:TypeId)(x a:aa):Option aa:=
 match P.underlying t,x,a with
 |some .string,.str s,.int _ k=>if 0<=k then(match s[k.toNat]? with|some b=>D (.int .u8 b.toNat)|none=>C)else C
 |some (.array len e),.agg cs,.int _ k=>(match cQ P e with|some c=>if 0<=k/\k<len then apart P e cs (k.toNat*c)else C|none=>C)
 |_,_,_=>C
def ML(s:List UInt8)(k:Nat):(⟨s.toArray⟩:ByteArray)[k]? =s[k]? :=by
 simp only[getElem?,decidableGetElem?];by_cases h:k<s.length
 ·have a8:k<(⟨s.toArray⟩:ByteArray).size:=by show k<s.toArray.size;simpa using h
  simp[h,a8];rfl
 ·have a8:¬k<(⟨s.toArray⟩:ByteArray).size:=by show¬k<s.toArray.size;simpa using h
  simp[h,a8]
def LN{t:TypeId}{x d v:aa}{j i:Value}(h:fC P t x d=D v)(c:bq ρ x j)(a:bq ρ d i)(w:World):∃r,(Instr.index t j i).run P w= .ok r w/\bq ρ v r:=by
 unfold fC at h;split at h
 ·rename_i s y k hu;cases a;cases c;split at h
  ·rename_i l;split at h
   ·rename_i b o;simp only[aZ]at h;subst h;refine⟨_,?_,.int _ _⟩;simp only[Instr.index,asIntOf,Sem.run_bind,Sem.run_pure,Result.andThen_ok,run_underlying hu,if_pos l,ML,o]
   ·cases h
  ·cases h
 ·rename_i len e cs y k hu;cases a;cases c with|agg _ xs p=>
  split at h
  ·rename_i z u;split at h
   ·rename_i q;obtain⟨r,m,n⟩:=oC h p w;exact⟨r,by simp[Instr.index,asIntOf,run_underlying hu,q,run_sizeOf u,m],n⟩
   ·cases h
  ·cases h
 ·cases h
def fB(x:Option aa)(a y:Nat):Option Nat:=
 match x with
 |none=>D a
 |some (.int _ k)=>if 0<=k/\k<=y then D k.toNat else C
 |some _=>C
def lp(P:Program)(t:TypeId)(x:aa)(lo a c:Option aa):Option aa:=
 match P.underlying t,x with
 |some .string,.str s=>
  (match c,fB a s.length s.length with
  |none,D h=>(match fB lo 0 h with|some l=>D (.str ((s.drop l).take (h-l)))|none=>C)
  |_,_=>C)
 |some (.slice e),.aG l i n esz cap=>
  (match cQ P e,c with
  |some d,C=>
   if d=esz then
    (match fB a n (cap.getD n)with
    |some h=>(match fB lo 0 h with|some k=>D (.aG l (i+k) (h-k) esz (cap.map (· -k)))|none=>C)
    |none=>C)
   else C
  |some d,D m=>
   if d=esz then
    (match fB (D m) 0 (cap.getD n)with
    |some m=>(match a,fB a 0 m with
     |some _,D h=>(match fB lo 0 h with|some k=>D (.aG l (i+k) (h-k) esz (D (m-k)))|none=>C)
     |_,_=>C)
    |none=>C)
   else C
  |_,_=>C)
 |some (.slice e),.aA=>
  (match cQ P e,c with
  |some _,C=>(match fB a 0 0 with
   |some h=>(match fB lo 0 h with|some _=>D .aA|none=>C)
   |none=>C)
  |_,_=>C)
 |_,_=>C
inductive rm(ρ:Env):Option aa->Option Value->Prop where
 |none:rm ρ none none
 |some (v:aa) (x:Value) (h:bq ρ v x):rm ρ (some v) (some x)
def iP{v:aa}{x:Value}{d y k:Nat}(h:fB (D v) d y=D k)(e:bq ρ v x)(code:BoundsCode){c:Nat}(j:y<=c)(w:World):
  (Instr.sliceBound x c code).run P w= .ok k w/\k<=y:=by
 unfold fB at h;split at h
 ·rename_i a;cases a
 ·rename_i l n a;cases a;cases e;split at h
  ·rename_i i;simp only[aZ]at h;subst h;refine⟨?_,ae⟩;simp only[Instr.sliceBound,asIntOf,Sem.run_bind,Sem.run_pure,Result.andThen_ok];rw[if_pos ae];exact Sem.run_pure ..
  ·cases h
 ·cases h
def Nn(s:List UInt8)(l h:Nat):(⟨s.toArray⟩:ByteArray).extract l h=⟨((s.drop l).take (h-l)).toArray⟩:=by
 apply ByteArray.ext;simp[ByteArray.data_extract,List.extract_eq_take_drop]
def Ml{t:TypeId}{x v:aa}{ab:Value}{lo R S:Option aa}{B F H:Option Value}(h:lp P t x lo R S=D v)(N:bq ρ x ab)(u:rm ρ lo B)(A:rm ρ R F)(G:rm ρ S H)(w:World):
  ∃r,(Instr.sliceAt t ab B F H).run P w= .ok r w/\bq ρ v r:=by
 unfold lp at h;split at h
 ·rename_i s hu;cases N;have z:(⟨s.toArray⟩:ByteArray).size=s.length:=by show s.toArray.size=_;simp
  split at h
  ·rename_i p o;cases G;split at h
   ·rename_i l y;simp only[aZ]at h;subst h;refine⟨_,?_,.str _⟩;have aq:∃m,(Instr.sliceBounds U s.length s.length B F C).run P w= .ok (l,p,m) w:=by
     refine⟨s.length,?_⟩;cases A with
     |none=>
      simp only[fB,aZ]at o;subst o;cases u with
      |none=>simp only[fB,aZ]at y;subst y;simp[Instr.sliceBounds]
      |some v x d=>simp[Instr.sliceBounds,(iP y d _ (bo _) w).1]
     |some v x d=>
      have:=(iP (P:=P) o d .sliceAlen (bo _) w).1;cases u with
      |none=>simp only[fB,aZ]at y;subst y;simp[Instr.sliceBounds,this]
      |some v x d=>simp[Instr.sliceBounds,this,(iP y d _ (bo _) w).1]
    obtain⟨m,aq⟩:=aq;simp[Instr.sliceAt,Instr.slice,run_underlying hu,z,aq,Nn]
   ·cases h
  ·cases h
 ·rename_i e l i n esz cap hu;cases N with|aG _ _ _ _ loc a c y ai Q O=>
  have K:cap.getD n<=c:=by
   cases E:cap with
   |none=>exact ai
   |some k=>have:=Q k E;simp;omega
  split at h
  ·rename_i W z;cases G;split at h
   ·rename_i M;subst M;split at h
    ·rename_i p o;split at h
     ·rename_i k j;simp only[aZ]at h;subst h;have am:p<=c:=by
       cases A with
       |none=>simp only[fB,aZ]at o;omega
       |some v x d=>have:=(iP (P:=P) o d .sliceAcap K w).2;omega
      have ag:k<=p:=by
       cases u with
       |none=>simp only[fB,aZ]at j;omega
       |some v x d=>exact(iP (P:=P) j d .sliceB (bo _) w).2
      have aq:(Instr.sliceBounds X n c B F C).run P w= .ok (k,p,c) w:=by
       cases A with
       |none=>
        simp only[fB,aZ]at o;subst o;cases u with
        |none=>simp only[fB,aZ]at j;subst j;simp[Instr.sliceBounds]
        |some v x d=>simp[Instr.sliceBounds,(iP j d _ (bo _) w).1]
       |some v x d=>
        have:=(iP (P:=P) o d .sliceAcap K w).1;cases u with
        |none=>simp only[fB,aZ]at j;subst j;simp[Instr.sliceBounds,this]
        |some v x d=>simp[Instr.sliceBounds,this,(iP j d _ (bo _) w).1]
      refine⟨.slice (D (if c=k then a else a.add (k*loc.esz))) (p-k) (c-k),?_,?_⟩
      ·simp[Instr.sliceAt,Instr.slice,run_underlying hu,aq,run_sizeOf z];split<;>rfl
      ·refine .aG l (i+k) (p-k) _ loc _ (c-k) y ae (λm hm=> ?_) (λaj=> ?_)
       ·cases E:cap with
        |none=>rw[E]at hm;cases hm
        |some q=>rw[E]at hm;simp at hm;have:=Q q E;omega
       ·obtain⟨rfl,L⟩:=O ae;rw[if_neg ae,l7];refine⟨?_,?_⟩
        ·congr 1;rw[Nat.add_mul];omega
        ·rw[show i+k+(c-k)=i+c by omega];exact L
     ·cases h
    ·cases h
   ·cases h
  ·rename_i W m0 z;cases G with|some _ H ah=>
   split at h
   ·rename_i M;subst M;split at h
    ·rename_i m hm;obtain⟨V,ao⟩:=iP (P:=P) hm ah .slice3Acap K w;split at h
     ·rename_i d p o;cases A with|some _ x al=>
      obtain⟨T,an⟩:=iP (P:=P) o al .slice3B (bo _) w;split at h
      ·rename_i k j;simp only[aZ]at h;subst h;have ag:k<=p:=by
        cases u with
        |none=>simp only[fB,aZ]at j;omega
        |some v x d=>exact(iP (P:=P) j d .sliceB (bo _) w).2
       have aq:(Instr.sliceBounds X n c B (D x) (D H)).run P w= .ok (k,p,m) w:=by
        cases u with
        |none=>simp only[fB,aZ]at j;subst j;simp[Instr.sliceBounds,V,T]
        |some v x d=>simp[Instr.sliceBounds,V,T,(iP j d _ (bo _) w).1]
       refine⟨.slice (D (if m=k then a else a.add (k*loc.esz))) (p-k) (m-k),?_,?_⟩
       ·simp[Instr.sliceAt,Instr.slice,run_underlying hu,aq,run_sizeOf z];split<;>rfl
       ·refine .aG l (i+k) (p-k) _ loc _ (m-k) y ae (λq ak=>by simpa using ak) (λaj=> ?_);obtain⟨rfl,L⟩:=O ae;rw[if_neg ae,l7];refine⟨?_,?_⟩
        ·congr 1;rw[Nat.add_mul];omega
        ·refine Nat.le_trans (Nat.add_le_add_left (Nat.mul_le_mul_right _ ?_) _) L;omega
      ·cases h
     ·cases h
    ·cases h
   ·cases h
  ·cases h
 ·rename_i e hu;cases N;split at h
  ·rename_i W z;cases G;split at h
   ·rename_i p o;split at h
    ·rename_i k j;simp only[aZ]at h;subst h;have ad:p=0:=by
      cases A with
      |none=>simp only[fB,aZ]at o;omega
      |some v x d=>have:=(iP (P:=P) o d .sliceAcap (bo _) w).2;omega
     subst ad;have af:k=0:=by
      cases u with
      |none=>simp only[fB,aZ]at j;omega
      |some v x d=>have:=(iP (P:=P) j d .sliceB (bo _) w).2;omega
     subst af;refine⟨.slice C 0 0,?_,.aA⟩;have aq:(Instr.sliceBounds X 0 0 B F C).run P w= .ok (0,0,0) w:=by
      cases A with
      |none=>
       cases u with
       |none=>simp[Instr.sliceBounds]
       |some v x d=>simp[Instr.sliceBounds,(iP j d _ (bo _) w).1]
      |some v x d=>
       have:=(iP (P:=P) o d .sliceAcap (bo _) w).1;cases u with
       |none=>simp[Instr.sliceBounds,this]
       |some v x d=>simp[Instr.sliceBounds,this,(iP j d _ (bo _) w).1]
     simp[Instr.sliceAt,Instr.slice,run_underlying hu,aq,run_sizeOf z]
    ·cases h
   ·cases h
  ·cases h
 ·cases h
end
section
variable {P:Program}{ρ:Env}{H:af}{w:World}
def CT(c:Array Value):∀(d:List aa) (o:Nat),(∀(j:Nat) (v:aa),d[j]? =D v->v.one=X/\∃x,c[o+j]? =D x/\bq ρ v x)->
  ∃xs:List Value,bL ρ d xs/\(∀j u,xs[j]? =D u->c[o+j]? =D u)/\∀u∈xs,u.oneCell'=X
 |[],_,_=>⟨[],.nil,λj u h=>by simp at h,λu h=>by cases h⟩
 |v::d,o,h=>by
  obtain⟨i,x,k,e⟩:=h 0 v rfl;obtain⟨xs,aq,aH,bu⟩:=CT c d (o+1) (λj u a=>by have:=h (j+1) u (by simpa using a);rwa[show o+(j+1)=o+1+j by omega]at this);refine⟨x::xs,.cons _ _ _ _ e aq,?_,?_⟩
  ·intro j u a;cases j with
   |zero=>simp at a;subst a;exact k
   |succ j=>rw[show o+(j+1)=o+1+j by omega];exact aH j u (by simpa using a)
  ·intro u hu;rcases List.mem_cons.1 hu with rfl|hu
   ·exact e.zJ i
   ·exact bu u hu
def IG(c:Array Value)(esz:Nat):∀(els:List (List aa)) (o:Nat),(∀(i:Nat) (e:List aa),els[i]? =D e->e.length=esz/\∀(j:Nat) (v:aa),e[j]? =D v->v.one=X/\∃x,c[o+i*esz+j]? =D x/\bq ρ v x)->
  ∃xs:List Value,bL ρ els.flatten xs/\(∀j u,xs[j]? =D u->c[o+j]? =D u)/\∀u∈xs,u.oneCell'=X
 |[],_,_=>⟨[],by simpa using bL.nil,λj u h=>by simp at h,λu h=>by cases h⟩
 |d::els,o,h=>by
  obtain⟨n,l⟩:=h 0 d rfl;obtain⟨k,aT,a2,a3⟩:=CT c d o (λj v a=>by simpa using l j v a);obtain⟨xs,aq,aH,bu⟩:=IG c esz els (o+esz) (λi e he=>by
   have:=h (i+1) e (by simpa using he);rw[Nat.succ_mul]at this;refine⟨this.1,λj v a=> ?_⟩;have:=this.2 j v a;rwa[show o+(i*esz+esz)+j=o+esz+i*esz+j by omega]at this)
  have p:=aT.length;refine⟨k++xs,by simpa using aT.append aq,?_,?_⟩
  ·intro j u a;by_cases m:j<k.length
   ·rw[List.getElem?_append_left m]at a;exact a2 j u a
   ·rw[List.getElem?_append_right ae]at a;have:=aH _ u a;rwa[show o+esz+(j-k.length)=o+j by omega]at this
  ·intro u hu;rcases List.mem_append.1 hu with hu|hu
   ·exact a3 u hu
   ·exact bu u hu
def fr(H:af)(l i n esz:Nat):Option (List (List aa)):=
 match H.get l with
 |some (.row _ a els)=>if a=esz/\i+n<=els.length then D ((els.drop i).take n)else C
 |some (.ck _ a els)=>if a=esz/\i+n<=els.length then D ((els.drop i).take n)else C
 |_=>C
def wu{els:List (List aa)}{i n k:Nat}{e:List aa}(h:((els.drop i).take n)[k]? =D e):els[i+k]? =D e:=by
 rw[List.getElem?_take]at h;split at h
 ·rw[List.getElem?_drop]at h;exact h
 ·cases h
def BN{ro:Bool}{i n:Nat}{loc:Loc}{o:Nat}{els a:List (List aa)}(y:gD ρ w loc ro o els)(h:(if o=loc.esz/\i+n<=els.length then D ((els.drop i).take n)else C)=D a):
  a.length=n/\(∀e∈a,e.length=loc.esz)/\(∀e∈a,∀v∈e,v.one=X)/\
  ∃xs:List Value,bL ρ a.flatten xs/\xs.length=n*loc.esz/\(∀j u,xs[j]? =D u->w.cell? ⟨loc.block,loc.off+i*loc.esz+j,C⟩=D u)/\∀u∈xs,u.oneCell'=true:=by
 ·split at h
  ·rename_i x;obtain⟨rfl,hle⟩:=x;simp only[aZ]at h;subst h;obtain⟨_,c,t,A,s,_,m⟩:=y;have hlen:((els.drop i).take n).length=n:=by simp;omega
   have p:∀e∈(els.drop i).take n,e.length=loc.esz:=λe he=>by
    obtain⟨k,l⟩:=List.getElem?_of_mem he;exact(m _ e (wu l)).1
   have q:∀e∈(els.drop i).take n,∀v∈e,v.one=true:=λe he v z=>by
    obtain⟨k,l⟩:=List.getElem?_of_mem he;obtain⟨j,d⟩:=List.getElem?_of_mem z;exact((m _ e (wu l)).2 j v d).1
   refine⟨hlen,p,q,?_⟩;obtain⟨xs,aq,aH,bu⟩:=IG (ρ:=ρ) c loc.esz ((els.drop i).take n) (loc.off+i*loc.esz) (λk e l=>by
    have:=m _ e (wu l);refine⟨this.1,λj v d=> ?_⟩;have:=this.2 j v d;rwa[Nat.add_mul,<-Nat.add_assoc]at this)
   refine⟨xs,aq,by rw[<-aq.length,oK p,hlen],λj u d=> ?_,bu⟩;simp[World.cell?,s,aH j u d]
  ·cases h
def x2(o:Rel ρ H w){l i n:Nat}{loc:Loc}{a:List (List aa)}(h:fr H l i n loc.esz=D a)(p:ρ l=D loc):
  a.length=n/\(∀e∈a,e.length=loc.esz)/\(∀e∈a,∀v∈e,v.one=X)/\
  ∃xs:List Value,bL ρ a.flatten xs/\xs.length=n*loc.esz/\(∀j u,xs[j]? =D u->w.cell? ⟨loc.block,loc.off+i*loc.esz+j,C⟩=D u)/\∀u∈xs,u.oneCell'=true:=by
 unfold fr at h;split at h
 ·rename_i ro q els c;obtain⟨m,d,k⟩:=o.row _ _ _ _ c;obtain rfl:loc=m:=Option.some.inj (p.symm.trans d);exact BN k h
 ·rename_i t q els c;obtain⟨m,d,k,_⟩:=o.ck _ _ _ _ c;obtain rfl:loc=m:=Option.some.inj (p.symm.trans d);exact BN k h
 ·cases h
def jG(P:Program)(H:af)(eG:TypeId)(esz:Nat)(x:aa):Option (List (List aa)):=
 match P.underlying eG,x with
 |some (.slice _),.aG l i n a _=>if a=esz then fr H l i n esz else C
 |some (.slice _),.aA=>D []
 |some .string,.str s=>if esz=1 then D (s.map λb=>[.int .u8 b.toNat])else C
 |_,_=>C
def MK(s:List UInt8):bL ρ ((s.map λb=>[aa.int .u8 b.toNat]).flatten) (byteCells ⟨s.toArray⟩):=by
 unfold byteCells;show bL ρ _ (s.map _)
 induction s with
 |nil=>exact .nil
 |cons b s a=>exact .cons _ _ _ _ (.int _ _) a
def L4(G:Rel ρ H w){eG:TypeId}{esz:Nat}{x:aa}{q:Value}{d:List (List aa)}(h:jG P H eG esz x=D d)(m:bq ρ x q):
  (∀e∈d,e.length=esz)/\(∀e∈d,∀v∈e,v.one=X)/\∃news:List Value,bL ρ d.flatten news/\Src P esz eG q d.length news w:=by
 unfold jG at h;split at h
 ·rename_i e l i n O cap hu;split at h
  ·rename_i he;subst he;cases m with|aG _ _ _ _ loc a c L R Q K=>
   obtain⟨y,z,A,xs,B,k,E,F⟩:=x2 G h L;refine⟨z,A,xs,B,?_⟩;rw[y];refine Src.ofSlice w hu a n c xs k (λj u p=> ?_) F;have N:0<c:=by
    rcases Nat.eq_zero_or_pos c with o|o
    ·have M:n=0:=ae;rw[M]at k;have:xs=[]:=List.eq_nil_of_length_eq_zero (by simpa using k);subst this;simp at p
    ·exact o
   obtain⟨rfl,_⟩:=K N;rw[l7];exact E j u p
  ·cases h
 ·rename_i e hu;cases m;simp only[aZ]at h;subst h;exact⟨by simp,by simp,[],by simpa using bL.nil,Src.ofNil w hu 0⟩
 ·rename_i s hu;split at h
  ·rename_i he;subst he;cases m;simp only[aZ]at h;subst h;refine⟨by simp,by simp[aa.one],_,MK s,?_⟩;have:=Src.ofString w hu (⟨s.toArray⟩:ByteArray);have ar:(⟨s.toArray⟩:ByteArray).size=s.length:=by show s.toArray.size=_;simp
   rw[ar]at this;simpa using this
  ·cases h
 ·cases h
def je(P:Program)(t:TypeId):Option Nat:=(P.info? t).map (·.bytes)
def kR(x:aa)(e:TypeId):Option TypeId:=match x with
 | .str _=>D e
 |_=>C
def Ma{x:aa}{e:TypeId}:∀a,kR x e=D a->a=e:=by
 intro a h;unfold kR at h;split at h
 ·exact(Option.some.inj h).symm
 ·cases h
def jj(P:Program)(t:TypeId):Bool:=match P.underlying t with
 |some (.int .i64)=>X
 |_=>U
def OF{P:Program}{t:TypeId}(h:jj P t=X):P.underlying t=D (.int .i64):=by
 unfold jj at h;split at h
 ·assumption
 ·cases h
def ya(P:Program)(H:af)(e:TypeId)(s x:aa):Option (aa×af):=
 match s,x with
 | .aA,.int .i64 (.ofNat n)=>(match cQ P e,je P e,fE P e with
  |some esz,D hO,D z=>
   if 0<n/\z.cells.length=esz/\0<esz/\z.cells.all aa.one=X/\n*hO<=140737488355328/\n<=1125899906842624 then D (.aG H.next 0 n esz C,H.push (.row U esz (List.replicate n z.cells)))else C
  |_,_,_=>C)
 |_,_=>C
def df(P:Program)(H:af)(ts:List TypeId)(s x:aa):Option (aa×af):=
 match ts with
 |[t,eG]=>
  (match P.underlying t with
  |some (.slice e)=>
   if jj P eG=X then ya P H e s x else
   (match cQ P e,je P e,fE P e with
   |some esz,D hO,D z=>
    (match jG P H eG esz x with
    |some a=>
     if z.cells.length=esz/\0<esz then
      (match s with
      | .aA=>if a.length=0 then D (.aA,H)else
       if a.length*hO<=140737488355328/\a.length<=9223372036854775807 then D (.aG H.next 0 a.length esz C,H.push (eg (kR x e) esz a))else C
      | .aG l i n c cap=>
       if c=esz then
        if a.length=0 then D (s,H)
        else if(n+a.length)*hO<=140737488355328/\n+a.length<=9223372036854775807 then
         (match fr H l i n esz with
         |some os=>
          if cap.any (· <n+a.length)=X then D (.aG H.next 0 (n+a.length) esz C,H.push (.row U esz (os++a)))
          else if cap=C then
           (match H.get l with
           |some (.row U _ _)=>D (.aG H.next 0 (n+a.length) esz C,(H.set l .dead).push (.row U esz (os++a)))
           |some (.ck t0 _ _)=>if t0=e/\i=0 then D (.aG H.next 0 (n+a.length) esz C,(H.set l .dead).push (.ck t0 esz (os++a)))else C
           |_=>C)
          else C
         |none=>C)
        else C
       else C
      |_=>C)
     else C
    |none=>C)
   |_,_,_=>C)
  |_=>C)
 |_=>C
def IQ(w:World)(t eG ty e:TypeId)(j:P.underlying t=D (.slice e)){esz:Nat}(i:cQ P e=D esz)(base:Option Addr)(n c:Nat)(h:n<=c)(x:Value)(ar:Src P esz eG x 0 [] w):
  (Builtin.append_ #[t,eG] ty #[.slice base n c,x]).run P w= .ok (.slice base n c) w:=by
 have d:=ar.cells;rcases ar.kind with⟨k,a⟩|a<;>cases base<;>
  simp[Builtin.append_,run_underlying j,run_underlying a,run_sizeOf i,ar.len,h,d,storeCells]
def yR(y:Rel ρ H w)(E:ρ H.next=C){ot:Option TypeId}{t eG e:TypeId}(L:∀s,ot=D s->s=e)(ty:TypeId)(N:P.underlying t=D (.slice e)){esz hO:Nat}{z:aa}(l:cQ P e=D esz)(j:je P e=D hO)(m:fE P e=D z)
  (Q:z.cells.length=esz) (ad:0<esz)
  {a os:List (List aa)} (d1:∀e∈a,e.length=esz) (d2:∀e∈a,∀v∈e,v.one=X) {news:List Value} (d3:bL ρ a.flatten news) {o:Value} (ar:Src P esz eG o a.length news w)
  (bO:∀e∈os,e.length=esz) (b2:∀e∈os,∀v∈e,v.one=X) {olds:List Value} (cw:bL ρ os.flatten olds) (base:Option Addr) (n c:Nat) (K:os.length=n)
  (hold:(Builtin.firstCells esz n (.slice base n c)).run P w.drew= .ok olds.toArray w.drew) (p:c<n+a.length) (B:(n+a.length)*hO<=140737488355328) (ab:n+a.length<=9223372036854775807):
  ∃r u x,(Builtin.append_ #[t,eG] ty #[.slice base n c,o]).run P w= .ok r u/\bq x (.aG H.next 0 (n+a.length) esz C) r/\Step ρ H w x (H.push (eg ot esz (os++a))) u:=by
 unfold fE at m;unfold cQ at l;unfold je at j;simp only[dc]at m;obtain⟨i,q,h,S,T⟩:=m;rw[q]at l j;simp only[Option.map_some,aZ]at l j;subst l;subst j;have O:=(wg T ρ).cells;have R:h.cells.size=i.size:=by have:=O.length;rw[Q]at this;simpa using this.symm
 have M:=run_append_grow_src (P:=P) w t eG ty e i h N q S base n c olds hold o a.length news ar p ae (growslice_fits p B);have A:Rel ρ H w.drew:=y.drew;have d:=uu (w:=w.drew) A E (ot:=ot) (esz:=i.size) (els:=os++a) (λe he=>(List.mem_append.1 he).elim (bO e) (d1 e)) (λe he=>(List.mem_append.1 he).elim (b2 e) (d2 e))
  (xs:=olds++news) (tail:=(Builtin.zeroCells h.cells (grownCap w (n+a.length) c e-(n+a.length))).toList) (by simpa using cw.append d3) e L
 have aq:((olds++news)++(Builtin.zeroCells h.cells (grownCap w (n+a.length) c e-(n+a.length))).toList).toArray=(olds++news).toArray++Builtin.zeroCells h.cells (grownCap w (n+a.length) c e-(n+a.length)):=by
  apply Array.ext';simp
 rw[aq]at d;refine⟨_,_,_,M,?_,⟨d.le,d.next,d.a1,d.rel,d.os,d.tape,d.output,d.size,d.frame,d.own,d.ro⟩⟩;have F:=grownCap_ge w (n+a.length) c e;refine bq.aG (ρ:=ρ.fe H.next _) H.next 0 (n+a.length) C _ _ (grownCap w (n+a.length) c e) (Env.iK _ _ _) F (λk G=>by cases G) (λ_=>⟨by show(⟨w.heap.size,0,C⟩:Addr)=⟨w.heap.size,0+0*i.size,C⟩;simp,?_⟩)
 have V:olds.length=n*i.size:=by rw[<-cw.length,oK bO,K]
 have W:news.length=a.length*i.size:=by rw[<-d3.length,oK d1]
 have ea:(Builtin.zeroCells h.cells (grownCap w (n+a.length) c e-(n+a.length))).size=(grownCap w (n+a.length) c e-(n+a.length))*i.size:=by rw[size_zeroCells,R]
 simp only[Nat.zero_add,List.length_append,V,W,Array.length_toList,ea];rw[<-Nat.add_mul,<-Nat.add_mul];exact Nat.mul_le_mul_right _ ae
def Qg(B:Rel ρ H w)(aw:ρ H.next=C){ot:Option TypeId}{l i n esz:Nat}{els:List (List aa)}(F:H.get l=D (eg ot esz els)){loc:Loc}(P:ρ l=D loc)(aS:i+n<=els.length)
  {d:List (List aa)} (d1:∀e∈d,e.length=esz) (d2:∀e∈d,∀v∈e,v.one=X) {news:List Value} (d3:bL ρ d.flatten news) (aR:loc.off+(i+n+d.length)*esz<=loc.size) (aE:∀y,ot=D y->i=0):
  Step ρ H w (ρ.fe H.next ⟨loc.block,loc.off+i*esz,esz,loc.size⟩) ((H.set l .dead).push (eg ot esz ((els.drop i).take n++d))) (w.setCells loc.block (loc.off+(i+n)*esz) news):=by
 have aC:=af.a6 F;obtain⟨m,p,⟨_,arr,t,ah,S,al,aJ⟩,aM⟩:=vY B F;obtain rfl:loc=m:=Option.some.inj (P.symm.trans p);have aK:=al.1;have ax:=al.2 rfl;have hle:=Env.tN aw ⟨loc.block,loc.off+i*esz,esz,loc.size⟩;have aV:news.length=d.length*esz:=by rw[<-d3.length,oK d1]
 obtain⟨s1,s2,fX,k5⟩:=AA loc.block news (loc.off+(i+n)*esz) w;have A:∀k,k≠H.next->k≠l->((H.set l .dead).push (eg ot esz ((els.drop i).take n++d))).get k=H.get k:=λk E s=>by
  rw[af.dS (by simpa using E),af.get_set_other (Ne.symm s)]
 have z:((H.set l .dead).push (eg ot esz ((els.drop i).take n++d))).get l=D .dead:=by
  rw[af.dS (by simp;omega),af.get_set_same aC]
 have N:((H.set l .dead).push (eg ot esz ((els.drop i).take n++d))).get H.next=D (eg ot esz ((els.drop i).take n++d)):=af.bY (H.set l .dead) _
 have ar:∀k,((H.set l .dead).push (eg ot esz ((els.drop i).take n++d))).rw k->k≠H.next->H.rw k/\k≠l:=λk h a=>by
  have c:k≠l:=by rintro rfl;rcases h with⟨_,_,h⟩|⟨_,h⟩|⟨_,_,_,h⟩<;>(rw[z]at h;cases h)
  simpa [af.rw,A k a c,c]using h
 have an:∀k,((H.set l .dead).push (eg ot esz ((els.drop i).take n++d))).live k->k≠H.next->H.live k/\k≠l:=λk h a=>by
  have c:k≠l:=by rintro rfl;rcases h with⟨_,_,_,h⟩|⟨_,h⟩|⟨_,_,_,h⟩<;>(rw[z]at h;cases h)
  simpa [af.live,A k a c,c]using h
 have G:∀k m,H.live k->k≠l->ρ k=D m->m.block≠loc.block:=λk m h a8 e heq=>
  B.apart l k loc m (qh F) h (Ne.symm a8) P e heq.symm
 have key:gD (ρ.fe H.next ⟨loc.block,loc.off+i*esz,esz,loc.size⟩) (w.setCells loc.block (loc.off+(i+n)*esz) news) ⟨loc.block,loc.off+i*esz,esz,loc.size⟩ U esz ((els.drop i).take n++d)/\
   (w.setCells loc.block (loc.off+(i+n)*esz) news).heap[loc.block]? =D (.cells (jr arr (loc.off+(i+n)*esz) news) t ah):=by
  refine⟨⟨rfl,_,t,ah,uN _ _ _ _ _ _ _ S,⟨by rw[uw];exact aK,λ_=>by rw[uw];exact ax⟩,?_⟩,uN _ _ _ _ _ _ _ S⟩;intro q e he;have aB:((els.drop i).take n).length=n:=by simp;omega
  by_cases aW:q<n
  ·rw[List.getElem?_append_left ae]at he;have av:=wu he;obtain⟨a0,aT⟩:=aJ _ e av;refine⟨a0,λj v o=> ?_⟩;obtain⟨Q,x,L,K⟩:=aT j v o;refine⟨Q,x,?_,K.mono hle⟩;have ay:j<esz:=by
    rcases Nat.lt_or_ge j e.length with h|h
    ·omega
    ·rw[List.getElem?_eq_none h]at o;cases o
   show(jr arr (loc.off+(i+n)*esz) news)[loc.off+i*esz+q*esz+j]? =D x;rw[sj _ _ _ _ (by have:=tX (n:=esz) (show i+q<i+n by omega);rw[Nat.add_mul]at this;omega)];rw[show loc.off+i*esz+q*esz+j=loc.off+(i+q)*esz+j by rw[Nat.add_mul];omega];exact L
  ·rw[List.getElem?_append_right ae,aB]at he;refine⟨d1 e (List.mem_of_getElem? he),λj v o=> ?_⟩;obtain⟨x,L,K⟩:=d3.get _ _ (yH d1 he o);refine⟨d2 e (List.mem_of_getElem? he) v (List.mem_of_getElem? o),x,?_,K.mono hle⟩;have aF:q-n<d.length:=by
    rcases Nat.lt_or_ge (q-n) d.length with h|h
    ·exact h
    ·rw[List.getElem?_eq_none h]at he;cases he
   have ay:j<esz:=by
    have:=d1 e (List.mem_of_getElem? he);rcases Nat.lt_or_ge j e.length with h|h
    ·omega
    ·rw[List.getElem?_eq_none h]at o;cases o
   have aQ:=tX (n:=esz) aF;have aU:(i+n+d.length)*esz=(i+n)*esz+d.length*esz:=Nat.add_mul _ _ _;have:=wC news arr (loc.off+(i+n)*esz) ((q-n)*esz+j) x L ae;show(jr arr (loc.off+(i+n)*esz) news)[loc.off+i*esz+q*esz+j]? =D x;rw[show loc.off+i*esz+q*esz+j=loc.off+(i+n)*esz+((q-n)*esz+j) by
    have:q*esz=n*esz+(q-n)*esz:=by rw[<-Nat.add_mul];congr 1;omega
    rw[Nat.add_mul];omega]
   exact this
 refine⟨hle,by simp,λk a=>Env.jf (by simp at a;omega),⟨?_,?_,?_,?_⟩,s2,fX,k5,Nat.le_of_eq s1.symm,?_,?_,?ro⟩
 case ro=>
  intro k ag ad h;by_cases a:k=H.next
  ·subst a;rw[N]at h;have:=zv ot esz ((els.drop i).take n++d);rw[Option.some.inj h]at this;cases this
  ·by_cases c:k=l
   ·subst c;rw[z]at h;cases h
   ·rwa[A k a c]at h
 ·intro k aY ag ad h;by_cases a:k=H.next
  ·subst a;rw[N]at h;obtain⟨rfl,rfl,rfl,-⟩:=zw (Option.some.inj h);exact⟨_,Env.iK _ _ _,key.1⟩
  ·by_cases c:k=l
   ·subst c;rw[z]at h;cases h
   ·rw[A k a c]at h;obtain⟨m,p,aN,c',y,au,V,W,ab⟩:=B.row _ _ _ _ h;have u:=G k m (.inl ⟨_,_,_,h⟩) c p;refine⟨m,by rw[Env.jf a];exact p,aN,c',y,au,by rw[mX _ _ _ _ _ u];exact V,W,?_⟩;intro q e he;obtain⟨a0,aT⟩:=ab q e he;refine⟨a0,λj v o=> ?_⟩;obtain⟨Q,x,L,K⟩:=aT j v o;exact⟨Q,x,L,K.mono hle⟩
 ·intro k es h;by_cases a:k=H.next
  ·subst a;rw[N]at h;exact(zu (Option.some.inj h)).elim
  ·by_cases c:k=l
   ·subst c;rw[z]at h;cases h
   ·rw[A k a c]at h;obtain⟨m,p,ents,clock,V,W,ab⟩:=B.map _ _ h;have u:=G k m (.inr (.inl ⟨_,h⟩)) c p;exact⟨m,by rw[Env.jf a];exact p,ents,clock,by rw[mX _ _ _ _ _ u];exact V,W.mono hle,ab.mono hle⟩
 ·intro k y ag ad h;by_cases a:k=H.next
  ·subst a;rw[N]at h;obtain⟨ai,rfl,rfl⟩:=zx (Option.some.inj h);obtain⟨aO,aP,ak,aX⟩:=aM y ai;obtain rfl:=aE y ai;have aL:y=t:=by rw[S]at ak;cases ak;rfl
   subst aL;exact⟨_,Env.iK _ _ _,key.1,_,_,key.2,by show loc.off+0*esz=0;omega⟩
  ·by_cases c:k=l
   ·subst c;rw[z]at h;cases h
   ·rw[A k a c]at h;obtain⟨m,p,aI⟩:=B.ck _ _ _ _ h;have u:=G k m (.inr (.inr ⟨_,_,_,h⟩)) c p;exact⟨m,by rw[Env.jf a];exact p,aI.frame hle (mX _ _ _ _ _ u)⟩
 ·intro k M ao ap E s u aq aH;by_cases a:k=H.next
  ·subst a;rw[Env.iK]at aq;obtain rfl:=Option.some.inj aq;obtain⟨R,am⟩:=an M s (Ne.symm u);rw[Env.jf (Ne.symm u)]at aH;exact(G M ap R am aH).symm
  ·obtain⟨O,az⟩:=ar k E a;rw[Env.jf a]at aq;by_cases T:M=H.next
   ·subst T;rw[Env.iK]at aH;obtain rfl:=Option.some.inj aH;exact G k ao O.live az aq
   ·obtain⟨R,am⟩:=an M s T;rw[Env.jf T]at aH;exact B.apart k M ao ap O R u aq aH
 ·intro b _ aD;refine mX _ _ _ _ _ ?_;rintro rfl;exact aD ⟨l,loc,qh F,P,rfl⟩
 ·rintro b ⟨k,m,E,s,aj⟩;by_cases a:k=H.next
  ·subst a;rw[Env.iK]at s;obtain rfl:=Option.some.inj s;exact .inl ⟨l,loc,qh F,P,aj⟩
  ·obtain⟨O,_⟩:=ar k E a;rw[Env.jf a]at s;exact .inl ⟨k,m,O,s,aj⟩
def Step.dead{v:Env}{i d:af}{u:World}(h:Step ρ H w v i u)(q:d.next=i.next)(p:∀k,d.get k=i.get k\/d.get k=D .dead):Step ρ H w v d u:=by
 have j:∀k ro esz els,d.get k=D (.row ro esz els)->i.get k=D (.row ro esz els):=λk ro esz els e=>by
  rcases p k with h|h
  ·rw[<-h];exact e
  ·rw[h]at e;cases e
 have get_map:∀k es,d.get k=D (.map es)->i.get k=D (.map es):=λk es e=>by
  rcases p k with h|h
  ·rw[<-h];exact e
  ·rw[h]at e;cases e
 have m:∀k t esz els,d.get k=D (.ck t esz els)->i.get k=D (.ck t esz els):=λk t esz els e=>by
  rcases p k with h|h
  ·rw[<-h];exact e
  ·rw[h]at e;cases e
 have s:∀k,d.rw k->i.rw k:=λk h=>by
  rcases h with⟨a,b,h⟩|⟨a,h⟩|⟨a,b,c,h⟩
  ·exact .inl ⟨a,b,j _ _ _ _ h⟩
  ·exact .inr (.inl ⟨a,get_map _ _ h⟩)
  ·exact .inr (.inr ⟨a,b,c,m _ _ _ _ h⟩)
 have z:∀k,d.live k->i.live k:=λk h=>by
  rcases h with⟨a,b,c,h⟩|⟨a,h⟩|⟨a,b,c,h⟩
  ·exact .inl ⟨a,b,c,j _ _ _ _ h⟩
  ·exact .inr (.inl ⟨a,get_map _ _ h⟩)
  ·exact .inr (.inr ⟨a,b,c,m _ _ _ _ h⟩)
 refine⟨h.le,by rw[q];exact h.next,λl y=>h.a1 l (by rw[<-q];exact y),⟨λl ro esz els e=>h.rel.row l ro esz els (j _ _ _ _ e),λl es e=>h.rel.map l es (get_map _ _ e),λl t esz els e=>h.rel.ck l t esz els (m _ _ _ _ e),λl l' a b n o=>h.rel.apart l l' a b (s _ n) (z _ o)⟩,h.os,h.tape,h.output,h.size,h.frame,?_,λk esz els e=>h.ro k esz els (j _ _ _ _ e)⟩;rintro b ⟨l,loc,n,o,x⟩;exact h.own b ⟨l,loc,s _ n,o,x⟩
def Ly{ot:Option TypeId}{l i n esz c:Nat}{els os:List (List aa)}(d:H.get l=D (eg ot c els))(h:fr H l i n esz=D os):c=esz/\i+n<=els.length/\os=(els.drop i).take n:=by
 unfold fr at h;cases ot with
 |none=>
  rw[d]at h;simp only[eg]at h;split at h
  ·rename_i a;exact⟨a.1,a.2,(Option.some.inj h).symm⟩
  ·cases h
 |some t=>
  rw[d]at h;simp only[eg]at h;split at h
  ·rename_i a;exact⟨a.1,a.2,(Option.some.inj h).symm⟩
  ·cases h
def Fz(y:Rel ρ H w)(L:ρ H.next=C){ot:Option TypeId}{t eG e:TypeId}(aq:∀s,ot=D s->s=e)(ty:TypeId)(hu:P.underlying t=D (.slice e)){hO:Nat}{z:aa}{l i n:Nat}{cap:Option Nat}{loc:Loc}{a os:List (List aa)}(aB:cap=C)(aC:¬a.length=0)(d:cQ P e=D loc.esz)(ag:je P e=D hO)(av:fE P e=D z)
  (aw:z.cells.length=loc.esz) (ar:0<loc.esz)
  (d1:∀e∈a,e.length=loc.esz) (d2:∀e∈a,∀v∈e,v.one=X) {news:List Value} (d3:bL ρ a.flatten news) {F:Value} (S:Src P loc.esz eG F a.length news w)
  (E:os.length=n) (bO:∀e∈os,e.length=loc.esz) (b2:∀e∈os,∀v∈e,v.one=X) {olds:List Value} (cw:bL ρ os.flatten olds) (m:Addr) (c:Nat)
  (hold:(Builtin.firstCells loc.esz n (.slice (D m) n c)).run P w.drew= .ok olds.toArray w.drew) (G:(n+a.length)*hO<=140737488355328/\n+a.length<=9223372036854775807)
  (Q:ρ l=D loc) (ad:0<c->m=⟨loc.block,loc.off+i*loc.esz,C⟩/\loc.off+(i+c)*loc.esz<=loc.size) {W:Nat} {V:List (List aa)} (an:∀s,ot=D s->i=0) (o:H.get l=D (eg ot W V)) (ap:fr H l i n loc.esz=D os):
  ∃r u x,(Builtin.append_ #[t,eG] ty #[.slice (D m) n c,F]).run P w= .ok r u/\bq x (.aG H.next 0 (n+a.length) loc.esz C) r/\Step ρ H w x ((H.set l .dead).push (eg ot loc.esz (os++a))) u:=by
 obtain⟨aD,ao⟩:=Ly o ap;obtain⟨ax,al,⟨ah,arr,t0,ay,K,M,aF⟩,-⟩:=vY y o;obtain rfl:loc=ax:=Option.some.inj (Q.symm.trans al);subst ah;obtain⟨ak,rfl⟩:=ao
 ·have E:=E;by_cases B:n+a.length<=c
  ·obtain⟨rfl,ai⟩:=ad ae;have aH:=M.1;have aj:=M.2 rfl;have au:=Qg (n:=n) y L o Q ak d1 d2 d3 (by
    refine Nat.le_trans (Nat.add_le_add_left (Nat.mul_le_mul_right _ ?_) _) ai;omega) an
   have aE:news.length=a.length*loc.esz:=by rw[<-d3.length,oK d1]
   have N:∀j,j<news.length->loc.off+i*loc.esz+n*loc.esz+j<arr.size:=by
    intro j q;have ab:(i+c)*loc.esz=i*loc.esz+c*loc.esz:=Nat.add_mul _ _ _;have az:n*loc.esz+a.length*loc.esz<=c*loc.esz:=by rw[<-Nat.add_mul];exact Nat.mul_le_mul_right _ B
    omega
   cases A:P.info? e with
   |none=>unfold cQ at d;rw[A]at d;cases d
   |some T=>
    have p:T.size=loc.esz:=by unfold cQ at d;rw[A]at d;simpa using d
    have R:=run_append_room_src (P:=P) w t eG ty e T hu A loc.block (loc.off+i*loc.esz) n c F a.length news (by rw[p];exact S) B
     (λj q=>by rw[p];simp[World.cell?,K,N j q])
     (λj q=>by
      rw[p];have:=aj _ (N j q);simp only[World.frozen?,K];simpa using this)
    rw[p]at R;refine⟨_,_,_,R,?_,by rw[show loc.off+i*loc.esz+n*loc.esz=loc.off+(i+n)*loc.esz by rw[Nat.add_mul];omega];exact au⟩;refine bq.aG (ρ:=ρ.fe H.next _) H.next 0 (n+a.length) C ⟨loc.block,loc.off+i*loc.esz,loc.esz,loc.size⟩ _ c (Env.iK _ _ _) B (λk h=>by cases h) (λ_=>⟨by simp,?_⟩)
    have ab:(i+c)*loc.esz=i*loc.esz+c*loc.esz:=Nat.add_mul _ _ _;simp only[Nat.zero_add];omega
  ·
    obtain⟨r,u,x,g1,g2,g3⟩:=yR y L (ot:=ot) aq ty hu d ag av aw ar d1 d2 d3 S bO b2 cw (D m) n c E hold ae G.1 G.2;refine⟨r,u,x,g1,g2,g3.dead (by simp) (λk=> ?_)⟩;have am:=af.a6 o;by_cases h:k=H.next
    ·subst h;left;rw[af.bY];exact af.bY (H.set l .dead) _
    ·by_cases O:k=l
     ·subst O;right;rw[af.dS (by simpa using h),af.get_set_same am]
     ·left;rw[af.dS (by simpa using h),af.get_set_other (Ne.symm O),af.dS h]
def Bi(z:Array Value):∀n,(Builtin.zeroCells z n).toList=(List.replicate n z.toList).flatten
 |0=>by simp[Builtin.zeroCells]
 |n+1=>by
  rw[List.replicate_succ,List.flatten_cons,<-Bi z n];apply List.ext_getElem?;intro i;simp only[Builtin.zeroCells,Array.toList_map,Array.toList_range,List.getElem?_map];by_cases a:i<(n+1)*z.size
  ·have d:0<z.size:=by
    rcases Nat.eq_zero_or_pos z.size with h|h
    ·rw[h]at a;simp at a
    ·exact h
   rw[List.getElem?_range a];by_cases c:i<z.size
   ·rw[List.getElem?_append_left (by simpa using c)];simp[Nat.mod_eq_of_lt c,c]
   ·rw[List.getElem?_append_right (by simp;omega)];rw[Nat.succ_mul]at a;simp only[Array.length_toList,List.getElem?_map];rw[List.getElem?_range ae];simp only[Option.map_some];rw[show i%z.size=(i-z.size)%z.size from Nat.mod_eq_sub_mod ae]
  ·rw[List.getElem?_eq_none (by simp;omega)];rw[List.getElem?_append_right (by simp;rw[Nat.succ_mul]at a;omega)];rw[List.getElem?_eq_none]
   ·rfl
   ·rw[Nat.succ_mul]at a;simp;omega
def R2(t eG ty e:TypeId)(i:TypeInfo)(z:Value)(m:P.underlying t=D (.slice e))(l:P.info? e=D i)(p:i.zero=D z)(o:P.underlying eG=D (.int .i64))(n:Nat)(y:0<n)(ar:0<i.size)
  (v:n*i.bytes<=140737488355328) (u:n<=1125899906842624) (x:Builtin.nextslicecap n 0*i.bytes<=281474976710656):
  (Builtin.append_ #[t,eG] ty #[.slice C 0 0,.int .i64 n]).run P w=
   .ok (.slice (D ⟨w.heap.size,0,C⟩) n (grownCap w n 0 e)) (w.drew.alloc (.cells (Builtin.zeroCells z.cells n++Builtin.zeroCells z.cells (grownCap w n 0 e-n)) e)):=by
 have hw:IntKind.i64.wrap (n:Int)=n:=IntWalk.i64_in n ⟨ae,ae⟩;have a:¬((n:Int)<0):=ae;have c:¬((n:Int)*(i.bytes:Int)>281474976710656):=by
  have:((n*i.bytes:Nat):Int)<=140737488355328:=ae;rw[Int.natCast_mul]at this;omega
 have q:¬(n<=0):=ae;have d:¬(9223372036854775807<(n:Int)):=ae;have j:¬(281474976710656<Builtin.nextslicecap n 0*i.bytes):=ae;have k:¬(n*i.size=0):=by
  intro h;rcases Nat.mul_eq_zero.1 h with h|h<;>omega
 have s:¬(n=0\/i.size=0):=ae;simp[Builtin.append_,run_underlying m,run_underlying o,sizeOf,typeInfo,zeroValue,l,p,a,c,d,j,hw,asInt,asIntOf,Question.forced,newRow,grownCap,Builtin.firstCells];rw[if_neg ae,if_neg k]
def KE{ρ:Env}{cs:List aa}{xs:List Value}(h:bL ρ cs xs):∀n,bL ρ (List.replicate n cs).flatten (List.replicate n xs).flatten
 |0=> .nil
 |n+1=>by rw[List.replicate_succ,List.replicate_succ,List.flatten_cons,List.flatten_cons];exact h.append (KE h n)
def LV(G:Rel ρ H w){t eG e:TypeId}{s x a:aa}{s' B:Value}{H':af}(ty:TypeId)(hu:P.underlying t=D (.slice e))(ab:P.underlying eG=D (.int .i64))(h:ya P H e s x=D (a,H'))(M:H.next<H'.next->ρ H.next=C)(ar:bq ρ s s')(W:bq ρ x B):
  ∃r A E,(Builtin.append_ #[t,eG] ty #[s',B]).run P w= .ok r A/\bq E a r/\Step ρ H w E H' A:=by
 unfold ya at h;split at h
 ·rename_i n;cases ar;cases W;split at h
  ·rename_i esz hO z l j m;split at h
   ·rename_i K;obtain⟨R,y,T,S,o,F⟩:=K;simp only[aZ,cj]at h;obtain⟨rfl,rfl⟩:=h;have L:=M (by simp);unfold fE at m;unfold cQ at l;unfold je at j;simp only[dc]at m;obtain⟨i,p,d,ag,ah⟩:=m;rw[p]at l j;simp only[Option.map_some,aZ]at l j;subst l;subst j;have u:=(wg ah ρ).cells;have ad:d.cells.size=i.size:=by have:=u.length;rw[y]at this;simpa using this.symm
    have N:=growslice_fits (need:=n) (old:=0) (bytes:=i.bytes) ae o;have V:=R2 (P:=P) (w:=w) t eG ty e i d hu p ag ab n R T o F (by simpa using N);have c:=uu (w:=w.drew) G.drew L (ot:=none) (esz:=i.size) (els:=List.replicate n z.cells) (λe he=>by rw[List.eq_of_mem_replicate he];exact y) (λe he v q=>by rw[List.eq_of_mem_replicate he]at q;exact List.all_eq_true.1 S v q)
     (xs:=(Builtin.zeroCells d.cells n).toList) (tail:=(Builtin.zeroCells d.cells (grownCap w n 0 e-n)).toList) (by rw[Bi];exact KE u n) e (λ_ h=>by cases h)
    have aq:((Builtin.zeroCells d.cells n).toList++(Builtin.zeroCells d.cells (grownCap w n 0 e-n)).toList).toArray=Builtin.zeroCells d.cells n++Builtin.zeroCells d.cells (grownCap w n 0 e-n):=by
     apply Array.ext';simp
    rw[aq]at c;refine⟨_,_,_,V,?_,⟨c.le,c.next,c.a1,c.rel,c.os,c.tape,c.output,c.size,c.frame,c.own,c.ro⟩⟩;have O:n<=grownCap w n 0 e:=grownCap_ge w n 0 e;refine bq.aG (ρ:=ρ.fe H.next _) H.next 0 n C _ _ (grownCap w n 0 e) (Env.iK _ _ _) O (λk Q=>by cases Q) (λ_=>⟨by show(⟨w.heap.size,0,C⟩:Addr)=⟨w.heap.size,0+0*i.size,C⟩;simp,?_⟩)
    simp only[Nat.zero_add,Array.length_toList,size_zeroCells,ad];rw[<-Nat.add_mul];exact Nat.mul_le_mul_right _ ae
   ·cases h
  ·cases h
 ·cases h
def Ln(m:Rel ρ H w){ts:List TypeId}{s x a:aa}{s' E:Value}{H':af}(ty:TypeId)(h:df P H ts s x=D (a,H'))(y:H.next<H'.next->ρ H.next=C)(ar:bq ρ s s')(ai:bq ρ x E):
  ∃r aj ak,(Builtin.append_ ts.toArray ty #[s',E]).run P w= .ok r aj/\bq ak a r/\Step ρ H w ak H' aj:=by
 unfold df at h;split at h
 ·rename_i t eG;split at h
  ·rename_i e hu;split at h
   ·rename_i an;exact LV m ty hu (OF an) h y ar ai
   split at h
   ·rename_i esz hO z q F L;split at h
    ·rename_i N aq;obtain⟨d1,d2,news,d3,B⟩:=L4 (P:=P) m aq ai;split at h
     ·rename_i av;obtain⟨M,K⟩:=av;have ag:N.length=0->Src P esz eG E 0 [] w:=λd=>by
       have:N=[]:=List.eq_nil_of_length_eq_zero d;subst this;have:news=[]:=by cases d3;rfl
       subst this;simpa using B
      split at h
      ·cases ar;split at h
       ·rename_i d;simp only[aZ,cj]at h;obtain⟨rfl,rfl⟩:=h;exact⟨_,_,_,IQ w t eG ty e hu q C 0 0 (bo _) E (ag d),.aA,Step.refl m⟩
       ·rename_i d;split at h
        ·rename_i p;simp only[aZ,cj]at h;obtain⟨rfl,rfl⟩:=h;have R:=y (by simp);have:=yR m R (Ma (x:=x)) ty hu q F L M K d1 d2 d3 B (os:=[]) (by simp) (by simp) (olds:=[]) (by simpa using bL.nil) C 0 0 rfl
          (run_firstCells_none w.drew esz 0 0 0) ae (by simpa using p.1) (by simpa using p.2)
         simpa using this
        ·cases h
      ·rename_i l i n ax cap;split at h
       ·rename_i he;split at h
        ·rename_i d;simp only[aZ,cj]at h;obtain⟨rfl,rfl⟩:=h;cases ar with|aG _ _ _ _ loc o c A T O v=>
         exact⟨_,_,_,IQ w t eG ty e hu q (D o) n c T E (ag d),.aG l i n cap loc o c A T O v,Step.refl m⟩
        ·rename_i d;split at h
         ·rename_i p;split at h
          ·rename_i os V;cases ar with|aG _ _ _ _ loc o c A T O v=>
           subst he;obtain⟨W,bO,b2,olds,cw,dN,aw,ay⟩:=x2 m V A;have hold:(Builtin.firstCells loc.esz n (.slice (D o) n c)).run P w.drew= .ok olds.toArray w.drew:=by
            refine run_firstCells_some w.drew loc.esz n o n c olds dN (λj u ad=> ?_);have ap:0<c:=by
             rcases Nat.eq_zero_or_pos c with d|d
             ·have au:n=0:=ae;rw[au]at dN;have:olds=[]:=List.eq_nil_of_length_eq_zero (by simpa using dN);subst this;simp at ad
             ·exact d
            obtain⟨rfl,_⟩:=v ap;rw[l7];exact aw j u ad
           split at h
           ·rename_i G;simp only[aZ,cj]at h;obtain⟨rfl,rfl⟩:=h;have R:=y (by simp);have ao:c<n+N.length:=by
             cases Q:cap with
             |none=>rw[Q]at G;simp at G
             |some k=>rw[Q]at G;simp at G;have:=O k Q;omega
            exact yR m R (ot:=none) (λ_ h=>by cases h) ty hu q F L M K d1 d2 d3 B bO b2 cw (D o) n c W hold ao p.1 p.2
           ·split at h
            ·rename_i ab;split at h
             ·rename_i al am S;simp only[aZ,cj]at h;obtain⟨rfl,rfl⟩:=h;exact Fz m (y (by simp)) (ot:=none) (λ_ h=>by cases h) ty hu ab d q F L M K d1 d2 d3 B W bO b2 cw o c hold p A v (λ_ h=>by cases h) S V
             ·rename_i t0 al am S;split at h
              ·rename_i ah;simp only[aZ,cj]at h;obtain⟨rfl,rfl⟩:=h;exact Fz m (y (by simp)) (ot:=some t0) (λ_ h=>by rw[<-Option.some.inj h];exact ah.1) ty hu ab d q F L M K d1 d2 d3 B W bO b2 cw o c hold p A v (λ_ _=>ah.2) S V
              ·cases h
             ·cases h
            ·cases h
          ·cases h
         ·cases h
       ·cases h
      ·cases h
     ·cases h
    ·cases h
   ·cases h
  ·cases h
 ·cases h
end
section
variable {P:Program}{ρ:Env}{H:af}{w:World}
def x8(P:Program)(H:af)(t:TypeId)(x:aa):Option aa:=
 match P.underlying t,x with
 |some .string,.str s=>D (.int .i64 s.length)
 |some (.slice _),.aG _ _ n _ _=>D (.int .i64 n)
 |some (.slice _),.aA=>D (.int .i64 0)
 |some (.array n _),_=>D (.int .i64 n)
 |some (.map _ _),.jo=>D (.int .i64 0)
 |some (.map _ _),.map l=>(match H.get l with|some (.map es)=>D (.int .i64 es.length)|_=>C)
 |_,_=>C
def tF{l:Nat}{es:List (aa×aa)}(e:Rel ρ H w)(h:H.get l=D (.map es)){loc:Loc}(i:ρ l=D loc):
  ∃ents clock,w.heap[loc.block]? =D (.map ents clock)/\(getObj loc.block).run P w= .ok (.map ents clock) w/\bL ρ (es.map (·.1)) (ents.toList.map (·.key))/\bL ρ (es.map (·.2)) (ents.toList.map (·.val)):=by
 obtain⟨k,j,ents,clock,a,c,d⟩:=e.map _ _ h;obtain rfl:loc=k:=Option.some.inj (i.symm.trans j);exact⟨ents,clock,a,by simp[getObj,Sem.run,a],c,d⟩
def LO(i:Rel ρ H w){t:TypeId}{x v:aa}{c:Value}(ty:TypeId)(h:x8 P H t x=D v)(a:bq ρ x c):∃r,(Builtin.len_ #[t] ty #[c]).run P w= .ok r w/\bq ρ v r:=by
 unfold x8 at h;split at h
 ·rename_i s hu;cases a;simp only[aZ]at h;subst h;have ar:(⟨s.toArray⟩:ByteArray).size=s.length:=by show s.toArray.size=_;simp
  exact⟨_,by simp[Builtin.len_,run_underlying hu,goInt,ar],.int _ _⟩
 ·rename_i hu;cases a;simp only[aZ]at h;subst h;exact⟨_,by simp[Builtin.len_,run_underlying hu,goInt],.int _ _⟩
 ·rename_i hu;cases a;simp only[aZ]at h;subst h;exact⟨_,by simp[Builtin.len_,run_underlying hu,goInt],.int _ _⟩
 ·rename_i n e hu;simp only[aZ]at h;subst h;exact⟨_,by simp[Builtin.len_,run_underlying hu,goInt],.int _ _⟩
 ·rename_i hu;cases a;simp only[aZ]at h;subst h;exact⟨_,by simp[Builtin.len_,run_underlying hu,goInt],.int _ _⟩
 ·rename_i hu;cases a with|map _ loc l=>
  split at h
  ·rename_i es j;simp only[aZ]at h;subst h;obtain⟨ents,clock,o,k,d,m⟩:=tF (P:=P) i j l;have hlen:=d.length;simp only[List.length_map,Array.length_toList]at hlen;exact⟨_,by simp[Builtin.len_,run_underlying hu,goInt,k,<-hlen],.int _ _⟩
  ·cases h
 ·cases h
def vi(x y:aa):Option aa:=
 match x,y with
 | .int k a,.int _ b=>D (.int k (if a<b then b else a))
 |_,_=>C
def vj(x y:aa):Option aa:=
 match x,y with
 | .int k a,.int _ b=>D (.int k (if b<a then b else a))
 |_,_=>C
def LX{x y v:aa}{a c:Value}(ts:Array TypeId)(ty:TypeId)(h:vi x y=D v)(d:bq ρ x a)(e:bq ρ y c)(w:World):∃r,(Builtin.max_ ts ty #[a,c]).run P w= .ok r w/\bq ρ v r:=by
 unfold vi at h;split at h
 ·cases d;cases e;simp only[aZ]at h;subst h;exact⟨_,by simp[Builtin.max_,Builtin.max2],.int _ _⟩
 ·cases h
def LZ{x y v:aa}{a c:Value}(ts:Array TypeId)(ty:TypeId)(h:vj x y=D v)(d:bq ρ x a)(e:bq ρ y c)(w:World):∃r,(Builtin.min_ ts ty #[a,c]).run P w= .ok r w/\bq ρ v r:=by
 unfold vj at h;split at h
 ·cases d;cases e;simp only[aZ]at h;subst h;exact⟨_,by simp[Builtin.min_,Builtin.min2],.int _ _⟩
 ·cases h
def h6(x:aa)(i:Nat):Option aa:=
 match x with
 | .tuple a=>a[i]?
 |_=>C
def Lz{x v:aa}{a:Value}{i:Nat}(h:h6 x i=D v)(e:bq ρ x a)(w:World):∃r,(Instr.extract a i).run P w= .ok r w/\bq ρ v r:=by
 unfold h6 at h;split at h
 ·cases e with|tuple _ xs ar=>
  obtain⟨r,c,d⟩:=ar.get _ _ h;exact⟨r,by simp[Instr.extract,c],d⟩
 ·cases h
def oz(P:Program)(src dst:TypeId)(x:aa):Option aa:=
 match P.underlying src,P.underlying dst,x with
 |some _,D (.int k),.int _ n=>D (.int k (k.wrap n))
 |some _,D .string,.str s=>D (.str s)
 |_,_,_=>C
def Lv{src dst:TypeId}{x v:aa}{d:Value}(h:oz P src dst x=D v)(c:bq ρ x d)(w:World):∃r,(convert src dst d).run P w= .ok r w/\bq ρ v r:=by
 unfold oz at h;split at h
 ·rename_i ar a;cases c;simp only[aZ]at h;subst h;exact⟨_,by simp[convert,run_underlying ar,run_underlying a,Conv.intToInt],.int _ _⟩
 ·rename_i ar a;cases c;simp only[aZ]at h;subst h;exact⟨_,by simp[convert,run_underlying ar,run_underlying a],.str _⟩
 ·cases h
def byteOf:List aa->Option UInt8
 |[.int .u8 n]=>D (UInt8.ofNat n.toNat)
 |_=>C
def bytesOf:List (List aa)->Option (List UInt8)
 |[]=>D []
 |e::r=>match byteOf e,bytesOf r with
  |some b,D l=>D (b::l)
  |_,_=>C
def pQ(P:Program)(H:af)(src dst:TypeId)(x:aa):Option aa:=
 match P.underlying src,P.underlying dst,x with
 |some (.slice e),D .string,.aG l i n esz _=>
  (match P.underlying e,fr H l i n esz with
  |some (.int .u8),D a=>if esz=1 then(bytesOf a).map .str else C
  |_,_=>C)
 |some (.slice e),D .string,.aA=>(match P.underlying e with|some (.int .u8)=>D (.str [])|_=>C)
 |_,_,_=>C
def CO(f:Value->ByteArray->Sem (ForInStep ByteArray))(j:∀n s,f (.int .u8 n) s=pure (ForInStep.yield (s.push (UInt8.ofNat n.toNat)))):∀(e:List (List aa)) (c:List UInt8),bytesOf e=D c->∀(xs:List Value),bL ρ e.flatten xs->∀(acc:ByteArray),
  (forIn xs acc f).run P w= .ok (acc++⟨c.toArray⟩) w
 |[],c,h,xs,i,acc=>by
  simp[bytesOf]at h;subst h;cases i;have:acc++(⟨#[]⟩:ByteArray)=acc:=by apply ByteArray.ext;simp
  simp[Sem.run_pure,this]
 |d::e,c,h,xs,i,acc=>by
  unfold bytesOf at h;split at h
  ·rename_i b l a k;simp only[aZ]at h;subst h;unfold byteOf at a;split at a
   ·rename_i n;simp only[aZ]at a;subst a;cases i with|cons _ x _ q m o=>
    cases m;have p:=CO f j e l k q o (acc.push (UInt8.ofNat n.toNat));rw[List.forIn_cons];simp only[Sem.run_bind,j,Sem.run_pure,Result.andThen_ok];rw[p]
    congr 1
    apply ByteArray.ext;simp
   ·cases a
  ·cases h
def Lr(z:Rel ρ H w){src dst:TypeId}{x v:aa}{q:Value}(h:pQ P H src dst x=D v)(p:bq ρ x q):∃r,(convert src dst q).run P w= .ok r w/\bq ρ v r:=by
 unfold pQ at h;split at h
 ·rename_i e l i n esz cap ar k;split at h
  ·rename_i s he F;split at h
   ·rename_i y;simp only[Option.map_eq_some_iff]at h;obtain⟨d,B,rfl⟩:=h;cases p with|aG _ _ _ _ loc a c K O N A=>
    obtain⟨R,bO,b2,xs,cw,dN,M,S⟩:=x2 z F K;refine⟨.string ⟨d.toArray⟩,?_,.str _⟩;have L:(loadCells a n).run P w= .ok xs.toArray w:=by
     rw[y,Nat.mul_one]at dN;rw[<-dN];refine run_loadCells_list w a xs (λj u o=> ?_);have E:0<c:=by
      rcases Nat.eq_zero_or_pos c with m|m
      ·have Q:n=0:=ae;have:xs=[]:=List.eq_nil_of_length_eq_zero ae;subst this;simp at o
      ·exact m
     obtain⟨rfl,_⟩:=A E;rw[l7];exact M j u o
    have G:ByteArray.empty++(⟨d.toArray⟩:ByteArray)=⟨d.toArray⟩:=by apply ByteArray.ext;simp
    simp only[convert,Sem.run_bind,run_underlying ar,run_underlying k,run_underlying he,Result.andThen_ok,Conv.bytesToString,L];rw[<-Array.forIn_toList];show((Sem.run P (forIn xs ByteArray.empty _) w).andThen _)=_;rw[CO (P:=P) (w:=w) _ (λ_ _=>rfl) s d B xs cw ByteArray.empty,G];rfl
   ·cases h
  ·cases h
 ·rename_i e ar k;cases p;split at h
  ·rename_i he;simp only[aZ]at h;subst h;exact⟨.string ⟨#[]⟩,by simp[convert,run_underlying ar,run_underlying k,run_underlying he,Conv.bytesToString];rfl,.str []⟩
  ·cases h
 ·cases h
def vh(P:Program)(H:af)(t:TypeId)(l c:aa):Option (aa×af):=
 match P.underlying t,l,c with
 |some (.slice e),.int d n,.int h m=>
  (match cQ P e,je P e,fE P e with
  |some a,D hO,D z=>
   if d= .i64/\h= .i64/\0<=n/\n<=m/\m<=9223372036854775807/\(hO:Int)*m<=281474976710656/\z.cells.length=a/\0<a/\z.cells.all aa.one=X then
    D (.aG H.next 0 n.toNat a (D m.toNat),H.push (.row U a (List.replicate m.toNat z.cells)))
   else C
  |_,_,_=>C)
 |_,_,_=>C
def wrap_i64{n:Int}(a:0<=n)(c:n<=9223372036854775807):IntKind.i64.wrap n=n:=IntWalk.i64_in n ⟨ae,ae⟩
def LW(G:Rel ρ H w)(M:ρ H.next=C){t:TypeId}{l c a:aa}{l' c':Value}{H':af}(h:vh P H t l c=D (a,H'))(O:bq ρ l l')(K:bq ρ c c'):
  ∃r E F,(Instr.makeSlice t l' c').run P w= .ok r E/\bq F a r/\Step ρ H w F H' E:=by
 unfold vh at h;split at h
 ·rename_i e al n am m hu;cases O;cases K;split at h
  ·rename_i i hO z d k ab;split at h
   ·rename_i L;obtain⟨rfl,rfl,s,v,x,ah,A,ak,R⟩:=L;simp only[aZ,cj]at h;obtain⟨rfl,rfl⟩:=h;obtain⟨q,ag,ad⟩:=oD ab w;have S:∀u∈z.cells,u.one=true:=by simpa using R
    have y:=(ad ρ).cells;have p:q.cells.size=i:=by have:=y.length;rw[<-A,this];simp
    have T:=bL.yI y m.toNat;have ar:=uu G M (ot:=none) (esz:=i) (els:=List.replicate m.toNat z.cells) (λe he=>by rw[List.eq_of_mem_replicate he];exact A)
     (λe he=>by rw[List.eq_of_mem_replicate he];exact S) T (tail:=[]) e (λ_ h=>by cases h)
    cases j:P.info? e with
    |none=>unfold cQ at d;rw[j]at d;cases d
    |some B=>
     have ai:B.size=i:=by unfold cQ at d;rw[j]at d;simpa using d
     have N:B.bytes=hO:=by unfold je at k;rw[j]at k;simpa using k
     have hlen:(List.replicate m.toNat q.cells.toList).flatten.length=m.toNat*i:=by simp[p]
     refine⟨.slice (D ⟨w.heap.size,0,C⟩) n.toNat m.toNat,_,_,?_,?_,ar⟩
     ·have V:=wrap_i64 s (Int.le_trans v x);have W:=wrap_i64 (Int.le_trans s v) x;have aj:¬(m<0\/281474976710656<(hO:Int)*m):=ae;have hzero:=K4 q.cells m.toNat ae;rw[p]at hzero;simp only[Instr.makeSlice,Sem.run_bind,run_underlying hu,Result.andThen_ok,asInt,asIntOf,Sem.run_pure,typeInfo,j,N,V,W,run_program];rw[if_neg (by simp;omega)];simp only[Sem.run_bind,run_askRoom,Result.andThen_ok,run_sizeOf d];by_cases o:m.toNat*i=0
      ·simp only[o,if_true];have Q:m.toNat=0:=by rcases Nat.mul_eq_zero.1 o with h|h<;>omega
       have aQ:Array.range 0= #[]:=rfl;simp[newRow,aQ,Q]
      ·simp only[o,if_false,Sem.run_bind,ag,Result.andThen_ok,Sem.run_pure,p,hzero];simp[newRow]
     ·refine bq.aG (ρ:=ρ.fe H.next _) H.next 0 n.toNat (D m.toNat) ⟨w.heap.size,0,i,_⟩ _ m.toNat (Env.iK _ _ _) ae (by simp) (λ_=>⟨by simp,?_⟩)
      simp only[Nat.zero_add,hlen];simp
   ·cases h
  ·cases h
 ·cases h
def x1(P:Program)(t:TypeId)(x:aa):Option aa:=
 match P.underlying t,x with
 |some (.slice _),.aG _ _ _ _ (D k)=>D (.int .i64 k)
 |some (.slice _),.aA=>D (.int .i64 0)
 |_,_=>C
def Lt{t:TypeId}{x v:aa}{j:Value}(ty:TypeId)(h:x1 P t x=D v)(d:bq ρ x j)(w:World):∃r,(Builtin.cap_ #[t] ty #[j]).run P w= .ok r w/\bq ρ v r:=by
 unfold x1 at h;split at h
 ·rename_i e l i n esz k hu;cases d with|aG _ _ _ _ loc a c p q m o=>
  obtain rfl:=m k rfl;simp only[aZ]at h;subst h;exact⟨_,by simp[Builtin.cap_,run_underlying hu,goInt],.int _ _⟩
 ·rename_i e hu;cases d;simp only[aZ]at h;subst h;exact⟨_,by simp[Builtin.cap_,run_underlying hu,goInt],.int _ _⟩
 ·cases h
def I1(b:Nat):∀(xs a:List Value) (o:Nat) (w:World),w.setCells b o (xs++a)=(w.setCells b o xs).setCells b (o+xs.length) a
 |[],a,o,w=>by simp[World.setCells]
 |x::xs,a,o,w=>by
  simp only[List.cons_append,World.setCells];rw[I1 b xs a,List.length_cons,show o+1+xs.length=o+(xs.length+1) by omega]
def pZ(H:af)(l:Nat)(cs:List aa):Nat->Nat->Option af
 |_,0=>D H
 |i,k+1=>match H.get l with
  |some (.row U esz els)=>(match els[i]? with
   |some e=>if cs.length=esz then(pZ (H.set l (.row U esz (els.set i (c8 e 0 cs)))) l cs (i+1) k)else C
   |none=>C)
  |_=>C
def CU{l:Nat}{loc:Loc}{cs:List aa}{xs:List Value}(d:bL ρ cs xs)(j:∀v∈cs,v.one=X)(m:ρ l=D loc)(hlen:cs.length=loc.esz):
  ∀(k i:Nat) (H H':af) (w:World),Rel ρ H w->pZ H l cs i k=D H'->Step ρ H w ρ H' (w.setCells loc.block (loc.off+i*loc.esz) (List.replicate k xs).flatten)
 |0,i,H,H',w,a,h=>by
  simp only[pZ,aZ]at h;subst h;simpa [World.setCells]using Step.refl a
 |k+1,i,H,H',w,a,h=>by
  unfold pZ at h;split at h
  ·rename_i esz els n;split at h
   ·rename_i e he;split at h
    ·rename_i o;have s1:=Bh a (ot:=none) n m he (c:=0) (cs:=cs) ae j d;have s2:=CU d j m hlen k (i+1) _ H' _ s1.rel h;have fX:=s1.trans s2;rw[List.replicate_succ,List.flatten_cons,I1,<-d.length,hlen,show loc.off+i*loc.esz+loc.esz=loc.off+(i+1)*loc.esz by rw[Nat.succ_mul];omega];exact fX
    ·cases h
   ·cases h
  ·cases h
def MS{l:Nat}{cs:List aa}:∀{k i:Nat} {H H':af},0<k->pZ H l cs i k=D H'->∃esz els,H.get l=D (.row U esz els)/\cs.length=esz
 |0,_,_,_,h,_=>ae
 |k+1,i,H,H',_,h=>by
  unfold pZ at h;split at h
  ·rename_i esz els c;split at h
   ·split at h
    ·rename_i a;exact⟨esz,els,c,a⟩
    ·cases h
   ·cases h
  ·cases h
def ve(P:Program)(H:af)(ts:List TypeId)(x:aa):Option af:=
 match ts with
 |[t]=>(match P.underlying t with
  |some (.slice e)=>(match x with
   | .aA=>D H
   | .aG l i n _ _=>if n=0 then D H else(match fE P e with
    |some z=>if z.cells.all aa.one=X then pZ H l z.cells i n else C
    |none=>C)
   |_=>C)
  |_=>C)
 |_=>C
def Lu(k:Rel ρ H w){ts:List TypeId}{x:aa}{N:Value}{H':af}(ty:TypeId)(h:ve P H ts x=D H')(L:bq ρ x N):
  ∃M,(Builtin.clear_ ts.toArray ty #[N]).run P w= .ok (.tuple #[]) M/\Step ρ H w ρ H' M:=by
 unfold ve at h;split at h
 ·rename_i t;split at h
  ·rename_i e hu;split at h
   ·cases L;simp only[aZ]at h;subst h;exact⟨w,by simp[Builtin.clear_,run_underlying hu],Step.refl k⟩
   ·rename_i l i n esz cap;cases L with|aG _ _ _ _ loc a c F ad ax O=>
    split at h
    ·rename_i p;subst p;simp only[aZ]at h;subst h;exact⟨w,by simp[Builtin.clear_,run_underlying hu],Step.refl k⟩
    ·rename_i p;split at h
     ·rename_i z an;split at h
      ·rename_i ag;have G:∀v∈z.cells,v.one=true:=List.all_eq_true.1 ag;obtain⟨y,ak,am⟩:=oD an w;have o:=(am ρ).cells;obtain⟨aq,els,V,Q⟩:=MS ae h;obtain⟨ao,W,S,arr,t0,au,s,A,az⟩:=k.row _ _ _ _ V;obtain rfl:loc=ao:=Option.some.inj (F.symm.trans W);have aB:=A.1;have T:=A.2 rfl;have hlen:z.cells.length=loc.esz:=by rw[Q,S]
       have R:0<c:=ae;obtain⟨rfl,ay⟩:=O R;have ar:=CU o G F hlen n i H H' w k h;have al:y.cells.toList.length=loc.esz:=by rw[<-o.length];exact hlen
       have q:((List.replicate n y.cells.toList).flatten).length=n*loc.esz:=by simp[al]<;>rfl
       have B:∀j,j<n*loc.esz->loc.off+i*loc.esz+j<arr.size:=by
        intro j d;have av:(i+c)*loc.esz=i*loc.esz+c*loc.esz:=Nat.add_mul _ _ _;have aw:n*loc.esz<=c*loc.esz:=Nat.mul_le_mul_right _ ad;omega
       have K:=run_storeCells_cells (P:=P) loc.block (loc.off+i*loc.esz) (List.replicate n y.cells.toList).flatten 0 w
        (λj d=>by rw[q]at d;simp[World.cell?,s,B j d])
        (λj d=>by
         rw[q]at d;have:=T _ (B j d);simp only[World.frozen?,s,Nat.add_zero];simpa using this)
        (λu hu=>by
         obtain⟨aC,ab,ai⟩:=List.mem_flatten.1 hu;obtain rfl:=List.eq_of_mem_replicate ab;obtain⟨j,d⟩:=List.getElem?_of_mem ai;have E:j<z.cells.length:=by
          rcases Nat.lt_or_ge j y.cells.toList.length with h|h
          ·omega
          ·rw[List.getElem?_eq_none h]at d;cases d
         obtain⟨ap,ah,aj⟩:=o.get j _ (List.getElem?_eq_getElem E);obtain rfl:u=ap:=Option.some.inj (d.symm.trans ah);exact aj.zJ (G _ (List.getElem_mem E)))
       rw[<-Bi]at K ar;refine⟨_,?_,ar⟩;cases n with
       |zero=>omega
       |succ m=>
        simp only[Builtin.clear_];simp[run_underlying hu,ak];rw[K];simp
      ·cases h
     ·cases h
   ·cases h
  ·cases h
 ·cases h
end
section
variable {P:Program}{ρ:Env}{H:af}{w:World}
def rY(d:TypeDesc)(a b:aa):Option Bool:=
 match d,a,b with
 | .int _,.int k x,.int c y=>if k=c then D (x==y)else C
 | .string,.str x,.str y=>D (x==y)
 | .bool,.bool x,.bool y=>D (x==y)
 |_,_,_=>C
def rz(d:TypeDesc)(k:aa):List (aa×aa)->Nat->Option (Option (Nat×aa))
 |[],_=>D C
 |e::es,i=>match rY d k e.1 with
  |some X=>D (D (i,e.2))
  |some U=>rz d k es (i+1)
  |none=>C
def FJ{d:TypeDesc}{a b:aa}{bt ct:Value}{r:Bool}(h:rY d a b=D r)(c:bq ρ a bt)(e:bq ρ b ct):Instr.sameNow d bt ct=D r:=by
 unfold rY at h;split at h
 ·cases c;cases e;split at h
  ·rename_i i;subst i;simpa [Instr.sameNow]using h
  ·cases h
 ·cases c;cases e;simp only[aZ]at h;subst h;simp[Instr.sameNow,AO]
 ·cases c;cases e;simpa [Instr.sameNow]using h
 ·cases h
inductive tb(ρ:Env):Option (Nat×aa)->Option (Nat×Value)->Prop where
 |none:tb ρ none none
 |some (i:Nat) (v:aa) (x:Value) (h:bq ρ v x):tb ρ (some (i,v)) (some (i,x))
def tk{d:TypeDesc}{k:aa}{o:Value}(n:bq ρ k o):∀(es:List (aa×aa)) (ents:List MapEntry) (i:Nat) (r:Option (Nat×aa)),rz d k es i=D r->
  bL ρ (es.map (·.1)) (ents.map (·.key))->bL ρ (es.map (·.2)) (ents.map (·.val))->∃cL,Instr.findNow d o ents i=D cL/\tb ρ r cL/\∀j v,r=D (j,v)->i<=j/\j<i+es.length/\∃e,es[j-i]? =D e/\rY d k e.1=D X
 |[],ents,i,r,h,a,c=>by
  simp[rz]at h;subst h;have:ents=[]:=by
   have:=a.length;simp at this;exact List.eq_nil_of_length_eq_zero this.symm
  subst this;exact⟨C,rfl,.none,λj v h=>by cases h⟩
 |e::es,[],i,r,h,a,c=>by have:=a.length;simp at this
 |e::es,m::ents,i,r,h,a,c=>by
  simp only[List.map_cons]at a c;cases a with|cons _ _ _ _ aT p=>
  cases c with|cons _ _ _ _ a2 q=>
  unfold rz at h;unfold Instr.findNow;split at h
  ·rename_i ar;simp only[aZ]at h;subst h;rw[FJ ar n aT];exact⟨_,rfl,.some i _ _ a2,λj v l=>by
    simp only[aZ,cj]at l;obtain⟨rfl,_⟩:=l;exact⟨bo _,by simp,e,by simp,ar⟩⟩
  ·rename_i ar;rw[FJ ar n aT];obtain⟨cL,u,w,x⟩:=tk n es ents (i+1) r h p q;refine⟨cL,u,w,λj v l=> ?_⟩;obtain⟨A,B,s,y,z⟩:=x j v l;refine⟨ae,by simp;omega,s,?_,z⟩;rw[show j-i=(j-(i+1))+1 by omega];simpa using y
  ·cases h
def plainKey(d:TypeDesc):Bool:=
 match d with
 | .int _| .string| .bool=>X
 |_=>U
def vn{t:TypeId}{d:TypeDesc}(hu:P.underlying t=D d)(aF:plainKey d=X)(empty:Bool)(v:Value)(n:Nat)(w:World):(Instr.checkKey empty (n+1) t v).run P w= .ok () w:=by
 unfold Instr.checkKey;simp only[Sem.run_bind,run_underlying hu,Result.andThen_ok];cases d<;>simp[plainKey]at aF<;>rfl
def sf(P:Program)(d:TypeDesc)(k:aa):Bool:=
 match d,k with
 | .array 2 e,.agg cs=>(match P.underlying e with|some (.int _)=>X|_=>U)&&(match cQ P e with|some n=>(apart P e cs (0*n)).isSome&&(apart P e cs (1*n)).isSome|none=>U)
 |_,_=>U
def yq{t:TypeId}{d:TypeDesc}{k:aa}{i:Value}(hu:P.underlying t=D d)(aF:sf P d k=X)(s:bq ρ k i)(empty:Bool)(n:Nat)(w:World):(Instr.checkKey empty (n+2) t i).run P w= .ok () w:=by
 unfold sf at aF;split at aF
 ·rename_i e cs;simp only[Bool.and_eq_true]at aF;obtain⟨c,a⟩:=aF;split at c
  ·rename_i u he;split at a
   ·rename_i m hm;simp only[Bool.and_eq_true]at a;obtain⟨a0,o⟩:=Option.isSome_iff_exists.1 a.1;obtain⟨aT,p⟩:=Option.isSome_iff_exists.1 a.2;cases s with|agg _ xs h=>
    obtain⟨ag,j,_⟩:=oC o h w;obtain⟨av,l,_⟩:=oC p h w;have q:∀v:Value,(Instr.checkKey empty (n+1) e v).run P w= .ok () w:=λv=>vn he rfl empty v n w
    unfold Instr.checkKey;simp only[Sem.run_bind,run_underlying hu,Result.andThen_ok];rw[Std.Legacy.Range.forIn_eq_forIn_range'];simp only[Nat.zero_mul,Nat.one_mul]at j l;simp[List.range',run_sizeOf hm,j,l,q]
   ·cases a
  ·cases c
 ·cases aF
def pR(P:Program)(a:TypeId)(k:aa):List (aa×aa)->Nat->Option (Option (Nat×aa))
 |[],_=>D C
 |e::es,i=>match ln P 10000 a k e.1 with
  |some X=>D (D (i,e.2))
  |some U=>pR P a k es (i+1)
  |none=>C
def BP{j:TypeId}{k:aa}{d:Value}(l:bq ρ k d)(w:World):∀(es:List (aa×aa)) (ents:List MapEntry) (i:Nat) (r:Option (Nat×aa)),pR P j k es i=D r->
  bL ρ (es.map (·.1)) (ents.map (·.key))->bL ρ (es.map (·.2)) (ents.map (·.val))->∃cL,(Instr.findAsking j d ents i).run P w= .ok cL w/\tb ρ r cL
 |[],ents,i,r,h,a,c=>by
  simp[pR]at h;subst h;have:ents=[]:=by
   have:=a.length;simp at this;exact List.eq_nil_of_length_eq_zero this.symm
  subst this;exact⟨C,rfl,.none⟩
 |e::es,[],i,r,h,a,c=>by have:=a.length;simp at this
 |e::es,m::ents,i,r,h,a,c=>by
  simp only[List.map_cons]at a c;cases a with|cons _ _ _ _ aT n=>
  cases c with|cons _ _ _ _ a2 o=>
  unfold pR at h;unfold Instr.findAsking;split at h
  ·rename_i ar;simp only[aZ]at h;subst h;have he:(Op.equal j d m.key).run P w= .ok X w:=tA (ρ:=ρ) w _ _ _ _ _ _ _ ar l aT;exact⟨_,by simp[he],.some i _ _ a2⟩
  ·rename_i ar;have he:(Op.equal j d m.key).run P w= .ok U w:=tA (ρ:=ρ) w _ _ _ _ _ _ _ ar l aT;obtain⟨cL,p,q⟩:=BP l w es ents (i+1) r h n o;exact⟨cL,by simp[he,p],q⟩
  ·cases h
def Ns{n:Nat}{e:TypeId}{a:Value}:∀(ents:List MapEntry) (i:Nat),Instr.findNow (.array n e) a ents i=match ents with|[]=>D C|_=>C
 |[],_=>rfl
 |m::_,i=>by cases a<;>rfl
def yD{a:TypeId}{d:TypeDesc}{k:aa}{i:Value}(hu:P.underlying a=D d)(aF:sf P d k=X)(p:bq ρ k i)(w:World){es:List (aa×aa)}{ents:List MapEntry}{r:Option (Nat×aa)}(h:pR P a k es 0=D r)
  (j:bL ρ (es.map (·.1)) (ents.map (·.key))) (l:bL ρ (es.map (·.2)) (ents.map (·.val))):∃cL,(Instr.findKey a i ents).run P w= .ok cL w/\tb ρ r cL:=by
 obtain⟨n,e,rfl⟩:∃n e,d= .array n e:=by
  unfold sf at aF;split at aF
  ·exact⟨_,_,rfl⟩
  ·cases aF
 obtain⟨cL,c,o⟩:=BP (P:=P) p w es ents 0 r h j l;refine⟨cL,?_,o⟩;unfold Instr.findKey;simp only[Sem.run_bind,run_underlying hu,Result.andThen_ok,Ns];cases ents with
 |nil=>exact c
 |cons m ents=>exact c
def vg(P:Program)(H:af)(t:TypeId)(x k:aa)(a:Bool):Option aa:=
 match P.underlying t with
 |some (.map c e)=>
  (match P.underlying c,fE P e with
  |some d,D z=>
   if plainKey d=X then
    (match(match x with| .jo=>D []| .map l=>(match H.get l with|some (.map es)=>D es|_=>C)|_=>C)with
    |some es=>
     (match rz d k es 0 with
     |some (D (_,v))=>D (if a then .tuple [v,.bool X]else v)
     |some C=>D (if a then .tuple [z,.bool U]else z)
     |none=>C)
    |none=>C)
   else if sf P d k=X then
    (match(match x with| .jo=>D []| .map l=>(match H.get l with|some (.map es)=>D es|_=>C)|_=>C)with
    |some es=>
     (match pR P c k es 0 with
     |some (D (_,v))=>D (if a then .tuple [v,.bool X]else v)
     |some C=>D (if a then .tuple [z,.bool U]else z)
     |none=>C)
    |none=>C)
   else C
  |_,_=>C)
 |_=>C
def LS(O:Rel ρ H w){t:TypeId}{x k v:aa}{G s:Value}{ok:Bool}(h:vg P H t x k ok=D v)(F:bq ρ x G)(q:bq ρ k s):
  ∃r,(Instr.lookup t G s ok).run P w= .ok r w/\bq ρ v r:=by
 unfold vg at h;split at h
 ·rename_i S V hu;split at h
  ·rename_i d z j Q;split at h
   ·rename_i aF;split at h
    ·rename_i es a;obtain⟨o,E,B⟩:=oD Q w;have K:∃ents:Array MapEntry,bL ρ (es.map (·.1)) (ents.toList.map (·.key))/\bL ρ (es.map (·.2)) (ents.toList.map (·.val))/\
       ∀cL:Option (Nat×Value),Instr.findNow d s ents.toList 0=D cL->(Instr.lookup t G s ok).run P w=
       .ok (match cL with|some (_,v)=>(if ok then .tuple #[v,.bool X]else v)|none=>(if ok then .tuple #[o,.bool U]else o)) w:=by
      split at a
      ·cases F;simp only[aZ]at a;subst a;refine⟨#[],by simpa using bL.nil,by simpa using bL.nil,λcL n=> ?_⟩;unfold Instr.lookup;simp only[Sem.run_bind,run_underlying hu,Result.andThen_ok,Sem.run_pure];rw[vn j aF];simp only[Result.andThen_ok,Instr.findKey,Sem.run_bind,run_underlying j,n,Sem.run_pure];cases cL with
       |none=>simp[E]
       |some p=>obtain⟨i,v⟩:=p;simp
      ·cases F with|map l loc N=>
       split at a
       ·rename_i es' L;simp only[aZ]at a;subst a;obtain⟨ents,clock,R,M,c,e⟩:=tF (P:=P) O L N;refine⟨ents,c,e,λcL n=> ?_⟩;unfold Instr.lookup;simp only[Sem.run_bind,run_underlying hu,Result.andThen_ok,Sem.run_pure,M];rw[vn j aF];simp only[Result.andThen_ok,Instr.findKey,Sem.run_bind,run_underlying j,n,Sem.run_pure];cases cL with
        |none=>simp[E]
        |some p=>obtain⟨i,v⟩:=p;simp
       ·cases a
      ·cases a
     obtain⟨ents,c,e,u⟩:=K;split at h
     ·rename_i i T m;simp only[aZ]at h;subst h;obtain⟨cL,aq,aH,_⟩:=tk q es ents.toList 0 _ m c e;cases aH with|some _ _ y A=>
      refine⟨_,u _ aq,?_⟩;cases ok
      ·exact A
      ·exact .tuple _ [y,.bool X] (.cons _ _ _ _ A (.cons _ _ _ _ (.bool _) .nil))
     ·rename_i m;simp only[aZ]at h;subst h;obtain⟨cL,aq,aH,_⟩:=tk q es ents.toList 0 _ m c e;cases aH;refine⟨_,u _ aq,?_⟩;cases ok
      ·exact B ρ
      ·exact .tuple _ [o,.bool U] (.cons _ _ _ _ (B ρ) (.cons _ _ _ _ (.bool _) .nil))
     ·cases h
    ·cases h
   ·split at h
    ·rename_i aF;split at h
     ·rename_i es a;obtain⟨o,E,B⟩:=oD Q w;have K:∃ents:Array MapEntry,bL ρ (es.map (·.1)) (ents.toList.map (·.key))/\bL ρ (es.map (·.2)) (ents.toList.map (·.val))/\
        ∀cL:Option (Nat×Value),(Instr.findKey S s ents.toList).run P w= .ok cL w->(Instr.lookup t G s ok).run P w=
        .ok (match cL with|some (_,v)=>(if ok then .tuple #[v,.bool X]else v)|none=>(if ok then .tuple #[o,.bool U]else o)) w:=by
       split at a
       ·cases F;simp only[aZ]at a;subst a;refine⟨#[],by simpa using bL.nil,by simpa using bL.nil,λcL n=> ?_⟩;unfold Instr.lookup;simp only[Sem.run_bind,run_underlying hu,Result.andThen_ok,Sem.run_pure];rw[yq j aF q];simp only[Result.andThen_ok,n];cases cL with
        |none=>simp[E]
        |some p=>obtain⟨i,v⟩:=p;simp
       ·cases F with|map l loc N=>
        split at a
        ·rename_i es' L;simp only[aZ]at a;subst a;obtain⟨ents,clock,R,M,c,e⟩:=tF (P:=P) O L N;refine⟨ents,c,e,λcL n=> ?_⟩;unfold Instr.lookup;simp only[Sem.run_bind,run_underlying hu,Result.andThen_ok,Sem.run_pure,M];rw[yq j aF q];simp only[Result.andThen_ok,n];cases cL with
         |none=>simp[E]
         |some p=>obtain⟨i,v⟩:=p;simp
        ·cases a
       ·cases a
      obtain⟨ents,c,e,u⟩:=K;split at h
      ·rename_i i T m;simp only[aZ]at h;subst h;obtain⟨cL,aq,aH⟩:=yD j aF q w m c e;cases aH with|some _ _ y A=>
       refine⟨_,u _ aq,?_⟩;cases ok
       ·exact A
       ·exact .tuple _ [y,.bool X] (.cons _ _ _ _ A (.cons _ _ _ _ (.bool _) .nil))
      ·rename_i m;simp only[aZ]at h;subst h;obtain⟨cL,aq,aH⟩:=yD j aF q w m c e;cases aH;refine⟨_,u _ aq,?_⟩;cases ok
       ·exact B ρ
       ·exact .tuple _ [o,.bool U] (.cons _ _ _ _ (B ρ) (.cons _ _ _ _ (.bool _) .nil))
      ·cases h
     ·cases h
    ·cases h
  ·cases h
 ·cases h
def x_(H:af):aa×af:=(.map H.next,H.push (.map []))
def LU(d:Rel ρ H w)(e:ρ H.next=C)(t:TypeId):∃r a c,(Instr.makeMap t C).run P w= .ok r a/\bq c (x_ H).1 r/\Step ρ H w c (x_ H).2 a:=by
 have ar:=HZ d e (.map []) rfl (.map #[] 0) ⟨w.heap.size,0,0,0⟩ rfl (λ_ _ _ h=>by cases h) (λes h=>by
  simp only[cb.map.injEq]at h;subst h;exact⟨#[],0,heap_alloc_new _ _,by simpa using bL.nil,by simpa using bL.nil⟩) (λ_ _ _ h=>by cases h)
 refine⟨.map (D w.heap.size),_,_,?_,.map H.next ⟨w.heap.size,0,0,0⟩ (Env.iK _ _ _),ar⟩;simp[Instr.makeMap]
def AD(i:Rel ρ H w){l:Nat}{es es':List (aa×aa)}(j:H.get l=D (.map es)){loc:Loc}(p:ρ l=D loc){ents:Array MapEntry}{clock:Nat}
  (m:bL ρ (es'.map (·.1)) (ents.toList.map (·.key))) (n:bL ρ (es'.map (·.2)) (ents.toList.map (·.val))):
  Step ρ H w ρ (H.set l (.map es')) {w with heap:=w.heap.setIfInBounds loc.block (.map ents clock)}:=by
 have s:=af.a6 j;obtain⟨c,d,ad,ab,K,_,_⟩:=i.map _ _ j;obtain rfl:loc=c:=Option.some.inj (p.symm.trans d);have L:=kV K;have q:∀k,k≠loc.block->({w with heap:=w.heap.setIfInBounds loc.block (.map ents clock)}:World).heap[k]? =w.heap[k]? :=λk M=>by
  show(w.heap.setIfInBounds loc.block _)[k]? =_;rw[Array.getElem?_setIfInBounds,if_neg (Ne.symm M)]
 have o:∀l' c,H.live l'->l'≠l->ρ l'=D c->c.block≠loc.block:=λl' c h a8 e heq=>
  i.apart l l' loc c (.inr (.inl ⟨_,j⟩)) h (Ne.symm a8) p e heq.symm
 have x:∀l',(H.set l (.map es')).rw l'->H.rw l':=by
  intro l' h;by_cases a:l=l'
  ·subst a;exact .inr (.inl ⟨_,j⟩)
  ·simpa [af.rw,af.get_set_other a]using h
 have N:∀l',(H.set l (.map es')).live l'->H.live l':=by
  intro l' h;by_cases a:l=l'
  ·subst a;exact .inr (.inl ⟨_,j⟩)
  ·simpa [af.live,af.get_set_other a]using h
 refine⟨ρ.le_refl,bo _,λ_ _=>rfl,⟨?_,?_,?_,?_⟩,rfl,rfl,rfl,by simp,?_,?_,af.Iz rfl⟩
 ·intro l' ag E A h;by_cases a:l=l'
  ·subst a;rw[af.get_set_same s]at h;cases h
  ·rw[af.get_set_other a]at h;obtain⟨c,d,V,c',y,F,u,v,W⟩:=i.row _ _ _ _ h;exact⟨c,d,V,c',y,F,by rw[q _ (o l' c (.inl ⟨_,_,_,h⟩) (Ne.symm a) d)];exact u,v,W⟩
 ·intro l' ae h;by_cases a:l=l'
  ·subst a;rw[af.get_set_same s]at h;simp only[aZ,cb.map.injEq]at h;subst h;refine⟨loc,p,ents,clock,?_,m,n⟩;show(w.heap.setIfInBounds loc.block _)[loc.block]? =_;rw[Array.getElem?_setIfInBounds,if_pos rfl,if_pos L]
  ·rw[af.get_set_other a]at h;obtain⟨c,d,B,z,u,v⟩:=i.map _ _ h;exact⟨c,d,B,z,by rw[q _ (o l' c (.inr (.inl ⟨_,h⟩)) (Ne.symm a) d)];exact u,v⟩
 ·intro l' y E A h;by_cases a:l=l'
  ·subst a;rw[af.get_set_same s]at h;cases h
  ·rw[af.get_set_other a]at h;obtain⟨c,d,P⟩:=i.ck _ _ _ _ h;exact⟨c,d,P.frame ρ.le_refl (q _ (o l' c (.inr (.inr ⟨_,_,_,h⟩)) (Ne.symm a) d))⟩
 ·intro Q R S T m n o aq aH;exact i.apart Q R S T (x _ m) (N _ n) o aq aH
 ·intro b _ O;refine q b ?_;rintro rfl;exact O ⟨l,loc,.inr (.inl ⟨_,j⟩),p,rfl⟩
 ·rintro b ⟨l',c,m,n,G⟩;exact .inl ⟨l',c,x _ m,n,G⟩
def rA(P:Program)(H:af)(t:TypeId)(m k v:aa):Option af:=
 match P.underlying t,m with
 |some (.map a _),.map l=>
  (match P.underlying a,H.get l with
  |some d,D (.map es)=>
   if plainKey d=X then
    (match rz d k es 0 with
    |some (D (i,_))=>D (H.set l (.map (es.set i (k,v))))
    |some C=>D (H.set l (.map (es++[(k,v)])))
    |none=>C)
   else if sf P d k=X then
    (match pR P a k es 0 with
    |some C=>D (H.set l (.map (es++[(k,v)])))
    |_=>C)
   else C
  |_,_=>C)
 |_,_=>C
def TQ{d:TypeDesc}{a b:aa}{bt ct:Value}(h:rY d a b=D X)(c:bq ρ a bt)(e:bq ρ b ct)(n:Nat):Instr.sameBits (n+1) ct bt=true:=by
 unfold rY at h;split at h
 ·cases c;cases e;split at h
  ·rename_i i;subst i;simp at h;subst h;simp[Instr.sameBits]
  ·cases h
 ·cases c;cases e;simp at h;subst h;simp[Instr.sameBits,AO]
 ·cases c;cases e;simp at h;subst h;simp[Instr.sameBits]
 ·cases h
def Po(es:List (aa×aa))(i:Nat)(k v:aa):(es.set i (k,v)).map (·.1)=(es.map (·.1)).set i k:=by simp[List.map_set]
def Pp(es:List (aa×aa))(i:Nat)(k v:aa):(es.set i (k,v)).map (·.2)=(es.map (·.2)).set i v:=by simp[List.map_set]
def BV(u:Rel ρ H w){t:TypeId}{m k v:aa}{m' a c:Value}{H':af}(h:rA P H t m k v=D H')(hm:bq ρ m m')(q:bq ρ k a)(M:bq ρ v c):
  ∃Q,(Instr.mapUpdate t m' a c).run P w= .ok () Q/\Step ρ H w ρ H' Q:=by
 unfold rA at h;split at h
 ·rename_i ah ad l hu;cases hm with|map _ loc B=>
  split at h
  ·rename_i d es E z;split at h
   ·rename_i aF;obtain⟨ents,clock,K,L,n,s⟩:=tF (P:=P) u z B;have G:∀o:Obj,(setObj loc.block o).run P w= .ok () {w with heap:=w.heap.setIfInBounds loc.block o}:=λo=>by simp[setObj,Sem.run,K]
    have N:∀cL,Instr.findNow d a ents.toList 0=D cL->(Instr.mapUpdate t (.map (D loc.block)) a c).run P w=
      (match cL with
       |some (i,_)=>(do
        let key<-Instr.keyThatStays (((ents[i]?).map (·.key)).getD a) a
        setObj loc.block (.map (ents.modify i λe=>{e with key,val:=c}) clock):Sem Unit).run P w
       |none=>(setObj loc.block (.map (ents.push {key:=a,val:=c,born:=clock}) (clock+1))).run P w):=by
     intro cL W;unfold Instr.mapUpdate;simp only[Sem.run_bind,run_underlying hu,Result.andThen_ok,L];rw[vn E aF];simp only[Result.andThen_ok,Instr.findKey,Sem.run_bind,run_underlying E,W,Sem.run_pure];cases cL with
     |none=>rfl
     |some p=>obtain⟨i,v⟩:=p;simp only[Sem.run_bind]
    split at h
    ·rename_i i v0 x;simp only[aZ]at h;subst h;obtain⟨cL,aq,aH,bu⟩:=tk q es ents.toList 0 _ x n s;cases aH with|some _ _ y ag=>
     obtain⟨_,R,e,he,ar⟩:=bu i v0 rfl;simp only[Nat.sub_zero,Nat.zero_add]at he R;have hlen:=n.length;simp only[List.length_map,Array.length_toList]at hlen;have F:i<ents.size:=ae;obtain⟨O,S,V⟩:=n.get i e.1 (by simp[he]);have T:ents[i].key=O:=by simpa [F]using S
     have ab:(Instr.keyThatStays (((ents[i]?).map (·.key)).getD a) a).run P w= .ok a w:=by
      unfold Instr.keyThatStays;have:((ents[i]?).map (·.key)).getD a=O:=by simp[F,T]
      rw[this,if_pos (TQ ar q V 9999)];rfl
     refine⟨_,?_,AD u z B (es':=es.set i (k,v)) (ents:=ents.modify i λe=>{e with key:=a,val:=c}) (clock:=clock) ?_ ?_⟩
     ·rw[N _ aq];simp only[Sem.run_bind,ab,Result.andThen_ok];exact G _
     ·rw[Po];have:(ents.modify i λe=>{e with key:=a,val:=c}).toList.map (·.key)=(ents.toList.map (·.key)).set i a:=by
       apply List.ext_getElem?;intro j;by_cases A:i=j
       ·subst A;simp[F]
       ·simp[A]
      rw[this];exact n.set q i
     ·rw[Pp];have:(ents.modify i λe=>{e with key:=a,val:=c}).toList.map (·.val)=(ents.toList.map (·.val)).set i c:=by
       apply List.ext_getElem?;intro j;by_cases A:i=j
       ·subst A;simp[F]
       ·simp[A]
      rw[this];exact s.set M i
    ·rename_i x;simp only[aZ]at h;subst h;obtain⟨cL,aq,aH,bu⟩:=tk q es ents.toList 0 _ x n s;cases aH;refine⟨_,?_,AD u z B (es':=es++[(k,v)]) (ents:=ents.push {key:=a,val:=c,born:=clock}) (clock:=clock+1) ?_ ?_⟩
     ·rw[N _ aq];exact G _
     ·simpa using n.append (.cons _ _ _ _ q .nil)
     ·simpa using s.append (.cons _ _ _ _ M .nil)
    ·cases h
   ·split at h
    ·rename_i aF;obtain⟨ents,clock,K,L,n,s⟩:=tF (P:=P) u z B;have G:∀o:Obj,(setObj loc.block o).run P w= .ok () {w with heap:=w.heap.setIfInBounds loc.block o}:=λo=>by simp[setObj,Sem.run,K]
     split at h
     ·rename_i x;simp only[aZ]at h;subst h;obtain⟨cL,aq,aH⟩:=yD E aF q w x n s;cases aH;refine⟨_,?_,AD u z B (es':=es++[(k,v)]) (ents:=ents.push {key:=a,val:=c,born:=clock}) (clock:=clock+1) ?_ ?_⟩
      ·unfold Instr.mapUpdate;simp only[Sem.run_bind,run_underlying hu,Result.andThen_ok,L];rw[yq E aF q];simp only[Result.andThen_ok,aq];exact G _
      ·simpa using n.append (.cons _ _ _ _ q .nil)
      ·simpa using s.append (.cons _ _ _ _ M .nil)
     ·cases h
    ·cases h
  ·cases h
 ·cases h
