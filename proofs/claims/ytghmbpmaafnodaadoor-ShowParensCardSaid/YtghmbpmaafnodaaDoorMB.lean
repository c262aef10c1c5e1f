/-
  Texts of one proof, laid together: Hv7 Hv8 Hv9 Hv10.
-/
import Derived.Test.YtghmbpmaafnodaaDoorMA
import Derived.Deep.AppendSrc
set_option linter.unusedVariables false
set_option linter.unusedSimpArgs false
set_option linter.defProp false
open Option renaming some→D,none→Z
open Bool renaming true→X,false→U
namespace Go.b9
section
variable {P:Program}{ρ:Env}{H:ae}{w:World}
def cA(P:Program)(t:TypeId)(x:aa)(f:Nat):Option aa:=
 match P.underlying t,x with
 |some (.struct a),.agg cs=>(match a[f]? with|some d=>apart P d.type cs d.offset|none=>Z)
 |_,_=>Z
def Fx{t:TypeId}{x v:aa}{a:Value}{f:Nat}(h:cA P t x f=D v)(k:bd ρ x a)(w:World):∃r,(Instr.field t a f).run P w= .ok r w/\bd ρ v r:=by
 unfold cA at h;split at h
 ·rename_i l cs hu;cases k with|agg _ xs i=>
  split at h
  ·rename_i d j;obtain⟨r,c,e⟩:=lx h i w;exact⟨r,by simp[Instr.field,run_underlying hu,j,asAgg,c],e⟩
  ·cases h
 ·cases h
def aK(P:Program)(t:TypeId)(x:aa)(f:Nat):Option aa:=
 match P.underlying t,x with
 |some (.struct a),.ptr l i c=>(match a[f]? with|some d=>(match cn P d.type with|some n=>if n=0 then Z else D (.ptr l i (c+d.offset))|none=>Z)|none=>Z)
 |_,_=>Z
def Fw{t:TypeId}{x v:aa}{a:Value}{f:Nat}(h:aK P t x f=D v)(o:bd ρ x a)(w:World):∃r,(Instr.fieldAt t a f).run P w= .ok r w/\bd ρ v r:=by
 unfold aK at h;split at h
 ·rename_i p l i c hu;cases o with|ptr _ _ _ loc k=>
  split at h
  ·rename_i d j;split at h
   ·rename_i n m;split at h
    ·cases h
    ·rename_i e;simp only[aU]at h;subst h;refine⟨_,?_,.ptr l i (c+d.offset) loc k⟩;simp[Instr.fieldAt,run_underlying hu,j,Instr.sureAddr,fieldPlace,run_sizeOf m,e,j0,Nat.add_assoc]
   ·cases h
  ·cases h
 ·cases h
def cc(P:Program)(t:TypeId)(x d:aa):Option aa:=
 match P.underlying t,x,d with
 |some (.slice e),.aA l i n esz _,.int _ k=>(match cn P e with|some a=>if a=esz/\0<=k/\k<n then D (.ptr l (i+k.toNat) 0)else Z|none=>Z)
 |some (.array len e),.ptr l i c,.int _ k=>(match cn P e with|some a=>if 0<=k/\k<len then D (.ptr l i (c+k.toNat*a))else Z|none=>Z)
 |_,_,_=>Z
def Fy{t:TypeId}{x u v:aa}{A y:Value}(h:cc P t x u=D v)(s:bd ρ x A)(q:bd ρ u y)(w:World):∃r,(Instr.indexAt t A y).run P w= .ok r w/\bd ρ v r:=by
 unfold cc at h;split at h
 ·rename_i e l i n esz cap E k hu;cases q;cases s with|aA _ _ _ _ loc a c o H G B=>
  split at h
  ·rename_i z p;split at h
   ·rename_i m;obtain⟨rfl,d,j⟩:=m;simp only[aU]at h;subst h;obtain⟨rfl,_⟩:=B af;refine⟨_,?_,.ptr l (i+k.toNat) 0 loc o⟩;have F:loc.off+i*loc.esz+k.toNat*loc.esz=loc.off+(i+k.toNat)*loc.esz+0:=by rw[Nat.add_mul];omega
    simp[Instr.indexAt,asIntOf,run_underlying hu,d,j,run_sizeOf p,j0]
   ·cases h
  ·cases h
 ·rename_i len e l i c E k hu;cases q;cases s with|ptr _ _ _ loc o=>
  split at h
  ·rename_i z p;split at h
   ·rename_i m;obtain⟨d,j⟩:=m;simp only[aU]at h;subst h;refine⟨_,?_,.ptr l i (c+k.toNat*z) loc o⟩;simp[Instr.indexAt,asIntOf,run_underlying hu,Instr.sureAddr,d,j,run_sizeOf p,j0,Nat.add_assoc]
   ·cases h
  ·cases h
 ·cases h
def eD(P:Program)(t:TypeId)(x a:aa):Option aa:=
 match P.underlying t,x,a with
 |some .string,.str s,.int _ k=>if 0<=k then(match s[k.toNat]? with|some b=>D (.int .u8 b.toNat)|none=>Z)else Z
 |some (.array len e),.agg cs,.int _ k=>(match cn P e with|some c=>if 0<=k/\k<len then apart P e cs (k.toNat*c)else Z|none=>Z)
 |_,_,_=>Z
def Gt(s:List UInt8)(k:Nat):(⟨s.toArray⟩:ByteArray)[k]? =s[k]? :=by
 simp only[getElem?,decidableGetElem?];by_cases h:k<s.length
 ·have ba:k<(⟨s.toArray⟩:ByteArray).size:=by show k<s.toArray.size;simpa using h
  simp[h,ba];rfl
 ·have ba:¬k<(⟨s.toArray⟩:ByteArray).size:=by show¬k<s.toArray.size;simpa using h
  simp[h,ba]
def Fz{t:TypeId}{x d v:aa}{j i:Value}(h:eD P t x d=D v)(c:bd ρ x j)(a:bd ρ d i)(w:World):∃r,(Instr.index t j i).run P w= .ok r w/\bd ρ v r:=by
 unfold eD at h;split at h
 ·rename_i s y k hu;cases a;cases c;split at h
  ·rename_i l;split at h
   ·rename_i b o;simp only[aU]at h;subst h;refine⟨_,?_,.int _ _⟩;simp only[Instr.index,asIntOf,Sem.run_bind,Sem.run_pure,Result.andThen_ok,run_underlying hu,if_pos l,Gt,o]
   ·cases h
  ·cases h
 ·rename_i len e cs y k hu;cases a;cases c with|agg _ xs p=>
  split at h
  ·rename_i z u;split at h
   ·rename_i q;obtain⟨r,m,n⟩:=lx h p w;exact⟨r,by simp[Instr.index,asIntOf,run_underlying hu,q,run_sizeOf u,m],n⟩
   ·cases h
  ·cases h
 ·cases h
def eC(x:Option aa)(a y:Nat):Option Nat:=
 match x with
 |none=>D a
 |some (.int _ k)=>if 0<=k/\k<=y then D k.toNat else Z
 |some _=>Z
def ju(P:Program)(t:TypeId)(x:aa)(lo a c:Option aa):Option aa:=
 match P.underlying t,x with
 |some .string,.str s=>
  (match c,eC a s.length s.length with
  |none,D h=>(match eC lo 0 h with|some l=>D (.str ((s.drop l).take (h-l)))|none=>Z)
  |_,_=>Z)
 |some (.slice e),.aA l i n esz cap=>
  (match cn P e,c with
  |some d,Z=>
   if d=esz then
    (match eC a n (cap.getD n)with
    |some h=>(match eC lo 0 h with|some k=>D (.aA l (i+k) (h-k) esz (cap.map (· -k)))|none=>Z)
    |none=>Z)
   else Z
  |some d,D m=>
   if d=esz then
    (match eC (D m) 0 (cap.getD n)with
    |some m=>(match a,eC a 0 m with
     |some _,D h=>(match eC lo 0 h with|some k=>D (.aA l (i+k) (h-k) esz (D (m-k)))|none=>Z)
     |_,_=>Z)
    |none=>Z)
   else Z
  |_,_=>Z)
 |some (.slice e),.ar=>
  (match cn P e,c with
  |some _,Z=>(match eC a 0 0 with
   |some h=>(match eC lo 0 h with|some _=>D .ar|none=>Z)
   |none=>Z)
  |_,_=>Z)
 |_,_=>Z
inductive nO(ρ:Env):Option aa->Option Value->Prop where
 |none:nO ρ none none
 |some (v:aa) (x:Value) (h:bd ρ v x):nO ρ (some v) (some x)
def gQ{v:aa}{x:Value}{d y k:Nat}(h:eC (D v) d y=D k)(e:bd ρ v x)(code:BoundsCode){c:Nat}(j:y<=c)(w:World):
  (Instr.sliceBound x c code).run P w= .ok k w/\k<=y:=by
 unfold eC at h;split at h
 ·rename_i a;cases a
 ·rename_i l n a;cases a;cases e;split at h
  ·rename_i i;simp only[aU]at h;subst h;refine⟨?_,af⟩;simp only[Instr.sliceBound,asIntOf,Sem.run_bind,Sem.run_pure,Result.andThen_ok];rw[if_pos af];exact Sem.run_pure ..
  ·cases h
 ·cases h
def GU(s:List UInt8)(l h:Nat):(⟨s.toArray⟩:ByteArray).extract l h=⟨((s.drop l).take (h-l)).toArray⟩:=by
 apply ByteArray.ext;simp[ByteArray.data_extract,List.extract_eq_take_drop]
def F_{t:TypeId}{x v:aa}{ad:Value}{lo S T:Option aa}{E G K:Option Value}(h:ju P t x lo S T=D v)(O:bd ρ x ad)(u:nO ρ lo E)(B:nO ρ S G)(H:nO ρ T K)(w:World):
  ∃r,(Instr.sliceAt t ad E G K).run P w= .ok r w/\bd ρ v r:=by
 unfold ju at h;split at h
 ·rename_i s hu;cases O;have A:(⟨s.toArray⟩:ByteArray).size=s.length:=by show s.toArray.size=_;simp
  split at h
  ·rename_i p o;cases H;split at h
   ·rename_i l z;simp only[aU]at h;subst h;refine⟨_,?_,.str _⟩;have y:∃m,(Instr.sliceBounds U s.length s.length E G Z).run P w= .ok (l,p,m) w:=by
     refine⟨s.length,?_⟩;cases B with
     |none=>
      simp only[eC,aU]at o;subst o;cases u with
      |none=>simp only[eC,aU]at z;subst z;simp[Instr.sliceBounds]
      |some v x d=>simp[Instr.sliceBounds,(gQ z d _ (bk _) w).1]
     |some v x d=>
      have:=(gQ (P:=P) o d .sliceAlen (bk _) w).1;cases u with
      |none=>simp only[eC,aU]at z;subst z;simp[Instr.sliceBounds,this]
      |some v x d=>simp[Instr.sliceBounds,this,(gQ z d _ (bk _) w).1]
    obtain⟨m,y⟩:=y;simp[Instr.sliceAt,Instr.slice,run_underlying hu,A,y,GU]
   ·cases h
  ·cases h
 ·rename_i e l i n esz cap hu;cases O with|aA _ _ _ _ loc a c z aj R Q=>
  have L:cap.getD n<=c:=by
   cases F:cap with
   |none=>exact aj
   |some k=>have:=R k F;simp;omega
  split at h
  ·rename_i ab A;cases H;split at h
   ·rename_i N;subst N;split at h
    ·rename_i p o;split at h
     ·rename_i k j;simp only[aU]at h;subst h;have an:p<=c:=by
       cases B with
       |none=>simp only[eC,aU]at o;omega
       |some v x d=>have:=(gQ (P:=P) o d .sliceAcap L w).2;omega
      have ah:k<=p:=by
       cases u with
       |none=>simp only[eC,aU]at j;omega
       |some v x d=>exact(gQ (P:=P) j d .sliceB (bk _) w).2
      have y:(Instr.sliceBounds X n c E G Z).run P w= .ok (k,p,c) w:=by
       cases B with
       |none=>
        simp only[eC,aU]at o;subst o;cases u with
        |none=>simp only[eC,aU]at j;subst j;simp[Instr.sliceBounds]
        |some v x d=>simp[Instr.sliceBounds,(gQ j d _ (bk _) w).1]
       |some v x d=>
        have:=(gQ (P:=P) o d .sliceAcap L w).1;cases u with
        |none=>simp only[eC,aU]at j;subst j;simp[Instr.sliceBounds,this]
        |some v x d=>simp[Instr.sliceBounds,this,(gQ j d _ (bk _) w).1]
      refine⟨.slice (D (if c=k then a else a.add (k*loc.esz))) (p-k) (c-k),?_,?_⟩
      ·simp[Instr.sliceAt,Instr.slice,run_underlying hu,y,run_sizeOf A];split<;>rfl
      ·refine .aA l (i+k) (p-k) _ loc _ (c-k) z af (λm hm=> ?_) (λak=> ?_)
       ·cases F:cap with
        |none=>rw[F]at hm;cases hm
        |some q=>rw[F]at hm;simp at hm;have:=R q F;omega
       ·obtain⟨rfl,M⟩:=Q af;rw[if_neg af,j0];refine⟨?_,?_⟩
        ·congr 1;rw[Nat.add_mul];omega
        ·rw[show i+k+(c-k)=i+c by omega];exact M
     ·cases h
    ·cases h
   ·cases h
  ·rename_i ab m0 A;cases H with|some _ K ai=>
   split at h
   ·rename_i N;subst N;split at h
    ·rename_i m hm;obtain⟨W,ap⟩:=gQ (P:=P) hm ai .slice3Acap L w;split at h
     ·rename_i d p o;cases B with|some _ x am=>
      obtain⟨V,ao⟩:=gQ (P:=P) o am .slice3B (bk _) w;split at h
      ·rename_i k j;simp only[aU]at h;subst h;have ah:k<=p:=by
        cases u with
        |none=>simp only[eC,aU]at j;omega
        |some v x d=>exact(gQ (P:=P) j d .sliceB (bk _) w).2
       have y:(Instr.sliceBounds X n c E (D x) (D K)).run P w= .ok (k,p,m) w:=by
        cases u with
        |none=>simp only[eC,aU]at j;subst j;simp[Instr.sliceBounds,W,V]
        |some v x d=>simp[Instr.sliceBounds,W,V,(gQ j d _ (bk _) w).1]
       refine⟨.slice (D (if m=k then a else a.add (k*loc.esz))) (p-k) (m-k),?_,?_⟩
       ·simp[Instr.sliceAt,Instr.slice,run_underlying hu,y,run_sizeOf A];split<;>rfl
       ·refine .aA l (i+k) (p-k) _ loc _ (m-k) z af (λq al=>by simpa using al) (λak=> ?_);obtain⟨rfl,M⟩:=Q af;rw[if_neg af,j0];refine⟨?_,?_⟩
        ·congr 1;rw[Nat.add_mul];omega
        ·refine Nat.le_trans (Nat.add_le_add_left (Nat.mul_le_mul_right _ ?_) _) M;omega
      ·cases h
     ·cases h
    ·cases h
   ·cases h
  ·cases h
 ·rename_i e hu;cases O;split at h
  ·rename_i ab A;cases H;split at h
   ·rename_i p o;split at h
    ·rename_i k j;simp only[aU]at h;subst h;have ae:p=0:=by
      cases B with
      |none=>simp only[eC,aU]at o;omega
      |some v x d=>have:=(gQ (P:=P) o d .sliceAcap (bk _) w).2;omega
     subst ae;have ag:k=0:=by
      cases u with
      |none=>simp only[eC,aU]at j;omega
      |some v x d=>have:=(gQ (P:=P) j d .sliceB (bk _) w).2;omega
     subst ag;refine⟨.slice Z 0 0,?_,.ar⟩;have y:(Instr.sliceBounds X 0 0 E G Z).run P w= .ok (0,0,0) w:=by
      cases B with
      |none=>
       cases u with
       |none=>simp[Instr.sliceBounds]
       |some v x d=>simp[Instr.sliceBounds,(gQ j d _ (bk _) w).1]
      |some v x d=>
       have:=(gQ (P:=P) o d .sliceAcap (bk _) w).1;cases u with
       |none=>simp[Instr.sliceBounds,this]
       |some v x d=>simp[Instr.sliceBounds,this,(gQ j d _ (bk _) w).1]
     simp[Instr.sliceAt,Instr.slice,run_underlying hu,y,run_sizeOf A]
    ·cases h
   ·cases h
  ·cases h
 ·cases h
end
section
variable {P:Program}{ρ:Env}{H:ae}{w:World}
def x6(c:Array Value):∀(d:List aa) (ai:Nat),(∀(j:Nat) (v:aa),d[j]? =D v->v.one=X/\∃x,c[ai+j]? =D x/\bd ρ v x)->
  ∃xs:List Value,bq ρ d xs/\(∀j u,xs[j]? =D u->c[ai+j]? =D u)/\∀u∈xs,u.oneCell'=X
 |[],_,_=>⟨[],.nil,λj u h=>by simp at h,λu h=>by cases h⟩
 |v::d,ai,h=>by
  obtain⟨m,x,n,e⟩:=h 0 v rfl;obtain⟨xs,i,k,l⟩:=x6 c d (ai+1) (λj u a=>by have:=h (j+1) u (by simpa using a);rwa[show ai+(j+1)=ai+1+j by omega]at this);refine⟨x::xs,.cons _ _ _ _ e i,?_,?_⟩
  ·intro j u a;cases j with
   |zero=>simp at a;subst a;exact n
   |succ j=>rw[show ai+(j+1)=ai+1+j by omega];exact k j u (by simpa using a)
  ·intro u hu;rcases List.mem_cons.1 hu with rfl|hu
   ·exact e.vb m
   ·exact l u hu
def C0(c:Array Value)(esz:Nat):∀(els:List (List aa)) (ai:Nat),(∀(i:Nat) (e:List aa),els[i]? =D e->e.length=esz/\∀(j:Nat) (v:aa),e[j]? =D v->v.one=X/\∃x,c[ai+i*esz+j]? =D x/\bd ρ v x)->
  ∃xs:List Value,bq ρ els.flatten xs/\(∀j u,xs[j]? =D u->c[ai+j]? =D u)/\∀u∈xs,u.oneCell'=X
 |[],_,_=>⟨[],by simpa using bq.nil,λj u h=>by simp at h,λu h=>by cases h⟩
 |d::els,ai,h=>by
  obtain⟨q,o⟩:=h 0 d rfl;obtain⟨k,aR,a2,a3⟩:=x6 c d ai (λj v a=>by simpa using o j v a);obtain⟨xs,l,m,n⟩:=C0 c esz els (ai+esz) (λi e he=>by
   have:=h (i+1) e (by simpa using he);rw[Nat.succ_mul]at this;refine⟨this.1,λj v a=> ?_⟩;have:=this.2 j v a;rwa[show ai+(i*esz+esz)+j=ai+esz+i*esz+j by omega]at this)
  have s:=aR.length;refine⟨k++xs,by simpa using aR.append l,?_,?_⟩
  ·intro j u a;by_cases p:j<k.length
   ·rw[List.getElem?_append_left p]at a;exact a2 j u a
   ·rw[List.getElem?_append_right af]at a;have:=m _ u a;rwa[show ai+esz+(j-k.length)=ai+j by omega]at this
  ·intro u hu;rcases List.mem_append.1 hu with hu|hu
   ·exact a3 u hu
   ·exact n u hu
def er(H:ae)(l i n esz:Nat):Option (List (List aa)):=
 match H.get l with
 |some (.row _ a els)=>if a=esz/\i+n<=els.length then D ((els.drop i).take n)else Z
 |some (.bU _ a els)=>if a=esz/\i+n<=els.length then D ((els.drop i).take n)else Z
 |_=>Z
def r6{els:List (List aa)}{i n k:Nat}{e:List aa}(h:((els.drop i).take n)[k]? =D e):els[i+k]? =D e:=by
 rw[List.getElem?_take]at h;split at h
 ·rw[List.getElem?_drop]at h;exact h
 ·cases h
def w7{ro:Bool}{i n:Nat}{loc:Loc}{p:Nat}{els a:List (List aa)}(B:fc ρ w loc ro p els)(h:(if p=loc.esz/\i+n<=els.length then D ((els.drop i).take n)else Z)=D a):
  a.length=n/\(∀e∈a,e.length=loc.esz)/\(∀e∈a,∀v∈e,v.one=X)/\
  ∃xs:List Value,bq ρ a.flatten xs/\xs.length=n*loc.esz/\(∀j u,xs[j]? =D u->w.cell? ⟨loc.block,loc.off+i*loc.esz+j,Z⟩=D u)/\∀u∈xs,u.oneCell'=true:=by
 ·split at h
  ·rename_i A;obtain⟨rfl,hle⟩:=A;simp only[aU]at h;subst h;obtain⟨_,c,t,F,z,_,m⟩:=B;have hlen:((els.drop i).take n).length=n:=by simp;omega
   have q:∀e∈(els.drop i).take n,e.length=loc.esz:=λe he=>by
    obtain⟨k,l⟩:=List.getElem?_of_mem he;exact(m _ e (r6 l)).1
   have y:∀e∈(els.drop i).take n,∀v∈e,v.one=true:=λe he v E=>by
    obtain⟨k,l⟩:=List.getElem?_of_mem he;obtain⟨j,d⟩:=List.getElem?_of_mem E;exact((m _ e (r6 l)).2 j v d).1
   refine⟨hlen,q,y,?_⟩;obtain⟨xs,o,s,x⟩:=C0 (ρ:=ρ) c loc.esz ((els.drop i).take n) (loc.off+i*loc.esz) (λk e l=>by
    have:=m _ e (r6 l);refine⟨this.1,λj v d=> ?_⟩;have:=this.2 j v d;rwa[Nat.add_mul,<-Nat.add_assoc]at this)
   refine⟨xs,o,by rw[<-o.length,lD q,hlen],λj u d=> ?_,x⟩;simp[World.cell?,z,s j u d]
  ·cases h
def tt(o:Rel ρ H w){l i n:Nat}{loc:Loc}{a:List (List aa)}(h:er H l i n loc.esz=D a)(p:ρ l=D loc):
  a.length=n/\(∀e∈a,e.length=loc.esz)/\(∀e∈a,∀v∈e,v.one=X)/\
  ∃xs:List Value,bq ρ a.flatten xs/\xs.length=n*loc.esz/\(∀j u,xs[j]? =D u->w.cell? ⟨loc.block,loc.off+i*loc.esz+j,Z⟩=D u)/\∀u∈xs,u.oneCell'=true:=by
 unfold er at h;split at h
 ·rename_i ro q els c;obtain⟨m,d,k⟩:=o.row _ _ _ _ c;obtain rfl:loc=m:=Option.some.inj (p.symm.trans d);exact w7 k h
 ·rename_i t q els c;obtain⟨m,d,k,_⟩:=o.bU _ _ _ _ c;obtain rfl:loc=m:=Option.some.inj (p.symm.trans d);exact w7 k h
 ·cases h
def hG(P:Program)(H:ae)(dy:TypeId)(esz:Nat)(x:aa):Option (List (List aa)):=
 match P.underlying dy,x with
 |some (.slice _),.aA l i n a _=>if a=esz then er H l i n esz else Z
 |some (.slice _),.ar=>D []
 |some .string,.str s=>if esz=1 then D (s.map λb=>[.int .u8 b.toNat])else Z
 |_,_=>Z
def Gs(s:List UInt8):bq ρ ((s.map λb=>[aa.int .u8 b.toNat]).flatten) (byteCells ⟨s.toArray⟩):=by
 unfold byteCells;show bq ρ _ (s.map _)
 induction s with
 |nil=>exact .nil
 |cons b s a=>exact .cons _ _ _ _ (.int _ _) a
def FQ(G:Rel ρ H w){dy:TypeId}{esz:Nat}{x:aa}{q:Value}{d:List (List aa)}(h:hG P H dy esz x=D d)(m:bd ρ x q):
  (∀e∈d,e.length=esz)/\(∀e∈d,∀v∈e,v.one=X)/\∃news:List Value,bq ρ d.flatten news/\Src P esz dy q d.length news w:=by
 unfold hG at h;split at h
 ·rename_i e l i n O cap hu;split at h
  ·rename_i he;subst he;cases m with|aA _ _ _ _ loc a c L R Q K=>
   obtain⟨y,z,A,xs,B,k,E,F⟩:=tt G h L;refine⟨z,A,xs,B,?_⟩;rw[y];refine Src.ofSlice w hu a n c xs k (λj u p=> ?_) F;have N:0<c:=by
    rcases Nat.eq_zero_or_pos c with o|o
    ·have M:n=0:=af;rw[M]at k;have:xs=[]:=List.eq_nil_of_length_eq_zero (by simpa using k);subst this;simp at p
    ·exact o
   obtain⟨rfl,_⟩:=K N;rw[j0];exact E j u p
  ·cases h
 ·rename_i e hu;cases m;simp only[aU]at h;subst h;exact⟨by simp,by simp,[],by simpa using bq.nil,Src.ofNil w hu 0⟩
 ·rename_i s hu;split at h
  ·rename_i he;subst he;cases m;simp only[aU]at h;subst h;refine⟨by simp,by simp[aa.one],_,Gs s,?_⟩;have:=Src.ofString w hu (⟨s.toArray⟩:ByteArray);have aB:(⟨s.toArray⟩:ByteArray).size=s.length:=by show s.toArray.size=_;simp
   rw[aB]at this;simpa using this
  ·cases h
 ·cases h
def hf(P:Program)(t:TypeId):Option Nat:=(P.info? t).map (·.bytes)
def iT(x:aa)(e:TypeId):Option TypeId:=match x with
 | .str _=>D e
 |_=>Z
def FZ{x:aa}{e:TypeId}:∀a,iT x e=D a->a=e:=by
 intro a h;unfold iT at h;split at h
 ·exact(Option.some.inj h).symm
 ·cases h
def hk(P:Program)(t:TypeId):Bool:=match P.underlying t with
 |some (.int .i64)=>X
 |_=>U
def HH{P:Program}{t:TypeId}(h:hk P t=X):P.underlying t=D (.int .i64):=by
 unfold hk at h;split at h
 ·assumption
 ·cases h
def tC(P:Program)(H:ae)(e:TypeId)(s x:aa):Option (aa×ae):=
 match s,x with
 | .ar,.int .i64 (.ofNat n)=>(match cn P e,hf P e,eE P e with
  |some esz,D fY,D z=>
   if 0<n/\z.cells.length=esz/\0<esz/\z.cells.all aa.one=X/\n*fY<=140737488355328/\n<=1125899906842624 then D (.aA H.next 0 n esz Z,H.push (.row U esz (List.replicate n z.cells)))else Z
  |_,_,_=>Z)
 |_,_=>Z
def cQ(P:Program)(H:ae)(ts:List TypeId)(s x:aa):Option (aa×ae):=
 match ts with
 |[t,dy]=>
  (match P.underlying t with
  |some (.slice e)=>
   if hk P dy=X then tC P H e s x else
   (match cn P e,hf P e,eE P e with
   |some esz,D fY,D z=>
    (match hG P H dy esz x with
    |some a=>
     if z.cells.length=esz/\0<esz then
      (match s with
      | .ar=>if a.length=0 then D (.ar,H)else
       if a.length*fY<=140737488355328/\a.length<=9223372036854775807 then D (.aA H.next 0 a.length esz Z,H.push (dw (iT x e) esz a))else Z
      | .aA l i n c cap=>
       if c=esz then
        if a.length=0 then D (s,H)
        else if(n+a.length)*fY<=140737488355328/\n+a.length<=9223372036854775807 then
         (match er H l i n esz with
         |some os=>
          if cap.any (· <n+a.length)=X then D (.aA H.next 0 (n+a.length) esz Z,H.push (.row U esz (os++a)))
          else if cap=Z then
           (match H.get l with
           |some (.row U _ _)=>D (.aA H.next 0 (n+a.length) esz Z,(H.set l .dead).push (.row U esz (os++a)))
           |some (.bU t0 _ _)=>if t0=e/\i=0 then D (.aA H.next 0 (n+a.length) esz Z,(H.set l .dead).push (.bU t0 esz (os++a)))else Z
           |_=>Z)
          else Z
         |none=>Z)
        else Z
       else Z
      |_=>Z)
     else Z
    |none=>Z)
   |_,_,_=>Z)
  |_=>Z)
 |_=>Z
def C8(w:World)(t dy ty e:TypeId)(j:P.underlying t=D (.slice e)){esz:Nat}(i:cn P e=D esz)(base:Option Addr)(n c:Nat)(h:n<=c)(x:Value)(aB:Src P esz dy x 0 [] w):
  (Builtin.append_ #[t,dy] ty #[.slice base n c,x]).run P w= .ok (.slice base n c) w:=by
 have d:=aB.cells;rcases aB.kind with⟨k,a⟩|a<;>cases base<;>
  simp[Builtin.append_,run_underlying j,run_underlying a,run_sizeOf i,aB.len,h,d,storeCells]
def uw(A:Rel ρ H w)(F:ρ H.next=Z){ot:Option TypeId}{t dy e:TypeId}(M:∀s,ot=D s->s=e)(ty:TypeId)(O:P.underlying t=D (.slice e)){esz fY:Nat}{z:aa}(l:cn P e=D esz)(j:hf P e=D fY)(m:eE P e=D z)
  (R:z.cells.length=esz) (ae:0<esz)
  {a os:List (List aa)} (d1:∀e∈a,e.length=esz) (d2:∀e∈a,∀v∈e,v.one=X) {news:List Value} (d3:bq ρ a.flatten news) {o:Value} (aB:Src P esz dy o a.length news w)
  (bH:∀e∈os,e.length=esz) (bX:∀e∈os,∀v∈e,v.one=X) {olds:List Value} (ck:bq ρ os.flatten olds) (base:Option Addr) (n c:Nat) (L:os.length=n)
  (hold:(Builtin.firstCells esz n (.slice base n c)).run P w.drew= .ok olds.toArray w.drew) (p:c<n+a.length) (E:(n+a.length)*fY<=140737488355328) (ad:n+a.length<=9223372036854775807):
  ∃r u x,(Builtin.append_ #[t,dy] ty #[.slice base n c,o]).run P w= .ok r u/\bd x (.aA H.next 0 (n+a.length) esz Z) r/\Step ρ H w x (H.push (dw ot esz (os++a))) u:=by
 unfold eE at m;unfold cn at l;unfold hf at j;simp only[cR]at m;obtain⟨i,q,h,T,V⟩:=m;rw[q]at l j;simp only[Option.map_some,aU]at l j;subst l;subst j;have Q:=(rY V ρ).cells;have S:h.cells.size=i.size:=by have:=Q.length;rw[R]at this;simpa using this.symm
 have N:=run_append_grow_src (P:=P) w t dy ty e i h O q T base n c olds hold o a.length news aB p af (growslice_fits p E);have B:Rel ρ H w.drew:=A.drew;have d:=qA (w:=w.drew) B F (ot:=ot) (esz:=i.size) (els:=os++a) (λe he=>(List.mem_append.1 he).elim (bH e) (d1 e)) (λe he=>(List.mem_append.1 he).elim (bX e) (d2 e))
  (xs:=olds++news) (tail:=(Builtin.zeroCells h.cells (grownCap w (n+a.length) c e-(n+a.length))).toList) (by simpa using ck.append d3) e M
 have y:((olds++news)++(Builtin.zeroCells h.cells (grownCap w (n+a.length) c e-(n+a.length))).toList).toArray=(olds++news).toArray++Builtin.zeroCells h.cells (grownCap w (n+a.length) c e-(n+a.length)):=by
  apply Array.ext';simp
 rw[y]at d;refine⟨_,_,_,N,?_,⟨d.le,d.next,d.aX,d.rel,d.os,d.tape,d.output,d.size,d.frame,d.own,d.ro⟩⟩;have G:=grownCap_ge w (n+a.length) c e;refine bd.aA (ρ:=ρ.ec H.next _) H.next 0 (n+a.length) Z _ _ (grownCap w (n+a.length) c e) (Env.gN _ _ _) G (λk K=>by cases K) (λ_=>⟨by show(⟨w.heap.size,0,Z⟩:Addr)=⟨w.heap.size,0+0*i.size,Z⟩;simp,?_⟩)
 have W:olds.length=n*i.size:=by rw[<-ck.length,lD bH,L]
 have ab:news.length=a.length*i.size:=by rw[<-d3.length,lD d1]
 have dI:(Builtin.zeroCells h.cells (grownCap w (n+a.length) c e-(n+a.length))).size=(grownCap w (n+a.length) c e-(n+a.length))*i.size:=by rw[size_zeroCells,S]
 simp only[Nat.zero_add,List.length_append,W,ab,Array.length_toList,dI];rw[<-Nat.add_mul,<-Nat.add_mul];exact Nat.mul_le_mul_right _ af
def IV(E:Rel ρ H w)(ay:ρ H.next=Z){ot:Option TypeId}{l i n esz:Nat}{els:List (List aa)}(K:H.get l=D (dw ot esz els)){loc:Loc}(R:ρ l=D loc)(aV:i+n<=els.length)
  {d:List (List aa)} (d1:∀e∈d,e.length=esz) (d2:∀e∈d,∀v∈e,v.one=X) {news:List Value} (d3:bq ρ d.flatten news) (aU:loc.off+(i+n+d.length)*esz<=loc.size) (aG:∀y,ot=D y->i=0):
  Step ρ H w (ρ.ec H.next ⟨loc.block,loc.off+i*esz,esz,loc.size⟩) ((H.set l .dead).push (dw ot esz ((els.drop i).take n++d))) (w.setCells loc.block (loc.off+(i+n)*esz) news):=by
 have aE:=ae.aS K;obtain⟨m,p,⟨_,arr,t,aj,V,an,aJ⟩,aM⟩:=rU E K;obtain rfl:loc=m:=Option.some.inj (R.symm.trans p);have aK:=an.1;have az:=an.2 rfl;have hle:=Env.p6 ay ⟨loc.block,loc.off+i*esz,esz,loc.size⟩;have aX:news.length=d.length*esz:=by rw[<-d3.length,lD d1]
 obtain⟨s1,s2,e4,aO⟩:=vP loc.block news (loc.off+(i+n)*esz) w;have B:∀k,k≠H.next->k≠l->((H.set l .dead).push (dw ot esz ((els.drop i).take n++d))).get k=H.get k:=λk G s=>by
  rw[ae.dp (by simpa using G),ae.get_set_other (Ne.symm s)]
 have A:((H.set l .dead).push (dw ot esz ((els.drop i).take n++d))).get l=D .dead:=by
  rw[ae.dp (by simp;omega),ae.get_set_same aE]
 have P:((H.set l .dead).push (dw ot esz ((els.drop i).take n++d))).get H.next=D (dw ot esz ((els.drop i).take n++d)):=ae.bC (H.set l .dead) _
 have av:∀k,((H.set l .dead).push (dw ot esz ((els.drop i).take n++d))).rw k->k≠H.next->H.rw k/\k≠l:=λk h a=>by
  have c:k≠l:=by rintro rfl;rcases h with⟨_,_,h⟩|⟨_,h⟩|⟨_,_,_,h⟩<;>(rw[A]at h;cases h)
  simpa [ae.rw,B k a c,c]using h
 have ap:∀k,((H.set l .dead).push (dw ot esz ((els.drop i).take n++d))).live k->k≠H.next->H.live k/\k≠l:=λk h a=>by
  have c:k≠l:=by rintro rfl;rcases h with⟨_,_,_,h⟩|⟨_,h⟩|⟨_,_,_,h⟩<;>(rw[A]at h;cases h)
  simpa [ae.live,B k a c,c]using h
 have L:∀k m,H.live k->k≠l->ρ k=D m->m.block≠loc.block:=λk m h ba e heq=>
  E.apart l k loc m (mL K) h (Ne.symm ba) R e heq.symm
 have key:fc (ρ.ec H.next ⟨loc.block,loc.off+i*esz,esz,loc.size⟩) (w.setCells loc.block (loc.off+(i+n)*esz) news) ⟨loc.block,loc.off+i*esz,esz,loc.size⟩ U esz ((els.drop i).take n++d)/\
   (w.setCells loc.block (loc.off+(i+n)*esz) news).heap[loc.block]? =D (.cells (hs arr (loc.off+(i+n)*esz) news) t aj):=by
  refine⟨⟨rfl,_,t,aj,qS _ _ _ _ _ _ _ V,⟨by rw[qB];exact aK,λ_=>by rw[qB];exact az⟩,?_⟩,qS _ _ _ _ _ _ _ V⟩;intro q e he;have aD:((els.drop i).take n).length=n:=by simp;omega
  by_cases aY:q<n
  ·rw[List.getElem?_append_left af]at he;have ax:=r6 he;obtain⟨a0,aR⟩:=aJ _ e ax;refine⟨a0,λj v o=> ?_⟩;obtain⟨S,x,N,M⟩:=aR j v o;refine⟨S,x,?_,M.mono hle⟩;have aB:j<esz:=by
    rcases Nat.lt_or_ge j e.length with h|h
    ·omega
    ·rw[List.getElem?_eq_none h]at o;cases o
   show(hs arr (loc.off+(i+n)*esz) news)[loc.off+i*esz+q*esz+j]? =D x;rw[oF _ _ _ _ (by have:=qh (n:=esz) (show i+q<i+n by omega);rw[Nat.add_mul]at this;omega)];rw[show loc.off+i*esz+q*esz+j=loc.off+(i+q)*esz+j by rw[Nat.add_mul];omega];exact N
  ·rw[List.getElem?_append_right af,aD]at he;refine⟨d1 e (List.mem_of_getElem? he),λj v o=> ?_⟩;obtain⟨x,N,M⟩:=d3.get _ _ (uf d1 he o);refine⟨d2 e (List.mem_of_getElem? he) v (List.mem_of_getElem? o),x,?_,M.mono hle⟩;have aH:q-n<d.length:=by
    rcases Nat.lt_or_ge (q-n) d.length with h|h
    ·exact h
    ·rw[List.getElem?_eq_none h]at he;cases he
   have aB:j<esz:=by
    have:=d1 e (List.mem_of_getElem? he);rcases Nat.lt_or_ge j e.length with h|h
    ·omega
    ·rw[List.getElem?_eq_none h]at o;cases o
   have aT:=qh (n:=esz) aH;have aW:(i+n+d.length)*esz=(i+n)*esz+d.length*esz:=Nat.add_mul _ _ _;have:=r9 news arr (loc.off+(i+n)*esz) ((q-n)*esz+j) x N af;show(hs arr (loc.off+(i+n)*esz) news)[loc.off+i*esz+q*esz+j]? =D x;rw[show loc.off+i*esz+q*esz+j=loc.off+(i+n)*esz+((q-n)*esz+j) by
    have:q*esz=n*esz+(q-n)*esz:=by rw[<-Nat.add_mul];congr 1;omega
    rw[Nat.add_mul];omega]
   exact this
 refine⟨hle,by simp,λk a=>Env.hg (by simp at a;omega),⟨?_,?_,?_,?_⟩,s2,e4,aO,Nat.le_of_eq s1.symm,?_,?_,?ro⟩
 case ro=>
  intro k ai ah h;by_cases a:k=H.next
  ·subst a;rw[P]at h;have:=u5 ot esz ((els.drop i).take n++d);rw[Option.some.inj h]at this;cases this
  ·by_cases c:k=l
   ·subst c;rw[A]at h;cases h
   ·rwa[B k a c]at h
 ·intro k a1 ai ah h;by_cases a:k=H.next
  ·subst a;rw[P]at h;obtain⟨rfl,rfl,rfl,-⟩:=u6 (Option.some.inj h);exact⟨_,Env.gN _ _ _,key.1⟩
  ·by_cases c:k=l
   ·subst c;rw[A]at h;cases h
   ·rw[B k a c]at h;obtain⟨m,p,aN,c',y,aw,ab,ad,ag⟩:=E.row _ _ _ _ h;have u:=L k m (.inl ⟨_,_,_,h⟩) c p;refine⟨m,by rw[Env.hg a];exact p,aN,c',y,aw,by rw[kA _ _ _ _ _ u];exact ab,ad,?_⟩;intro q e he;obtain⟨a0,aR⟩:=ag q e he;refine⟨a0,λj v o=> ?_⟩;obtain⟨S,x,N,M⟩:=aR j v o;exact⟨S,x,N,M.mono hle⟩
 ·intro k es h;by_cases a:k=H.next
  ·subst a;rw[P]at h;exact(u4 (Option.some.inj h)).elim
  ·by_cases c:k=l
   ·subst c;rw[A]at h;cases h
   ·rw[B k a c]at h;obtain⟨m,p,ents,clock,ab,ad,ag⟩:=E.map _ _ h;have u:=L k m (.inr (.inl ⟨_,h⟩)) c p;exact⟨m,by rw[Env.hg a];exact p,ents,clock,by rw[kA _ _ _ _ _ u];exact ab,ad.mono hle,ag.mono hle⟩
 ·intro k y ai ah h;by_cases a:k=H.next
  ·subst a;rw[P]at h;obtain⟨ak,rfl,rfl⟩:=u7 (Option.some.inj h);obtain⟨aP,aQ,am,aZ⟩:=aM y ak;obtain rfl:=aG y ak;have aL:y=t:=by rw[V]at am;cases am;rfl
   subst aL;exact⟨_,Env.gN _ _ _,key.1,_,_,key.2,by show loc.off+0*esz=0;omega⟩
  ·by_cases c:k=l
   ·subst c;rw[A]at h;cases h
   ·rw[B k a c]at h;obtain⟨m,p,aI⟩:=E.bU _ _ _ _ h;have u:=L k m (.inr (.inr ⟨_,_,_,h⟩)) c p;exact⟨m,by rw[Env.hg a];exact p,aI.frame hle (kA _ _ _ _ _ u)⟩
 ·intro k O aq au G s u F z;by_cases a:k=H.next
  ·subst a;rw[Env.gN]at F;obtain rfl:=Option.some.inj F;obtain⟨T,ao⟩:=ap O s (Ne.symm u);rw[Env.hg (Ne.symm u)]at z;exact(L O au T ao z).symm
  ·obtain⟨Q,aC⟩:=av k G a;rw[Env.hg a]at F;by_cases W:O=H.next
   ·subst W;rw[Env.gN]at z;obtain rfl:=Option.some.inj z;exact L k aq Q.live aC F
   ·obtain⟨T,ao⟩:=ap O s W;rw[Env.hg W]at z;exact E.apart k O aq au Q T u F z
 ·intro b _ aF;refine kA _ _ _ _ _ ?_;rintro rfl;exact aF ⟨l,loc,mL K,R,rfl⟩
 ·rintro b ⟨k,m,G,s,al⟩;by_cases a:k=H.next
  ·subst a;rw[Env.gN]at s;obtain rfl:=Option.some.inj s;exact .inl ⟨l,loc,mL K,R,al⟩
  ·obtain⟨Q,_⟩:=av k G a;rw[Env.hg a]at s;exact .inl ⟨k,m,Q,s,al⟩
def Step.dead{v:Env}{i d:ae}{u:World}(h:Step ρ H w v i u)(q:d.next=i.next)(p:∀k,d.get k=i.get k\/d.get k=D .dead):Step ρ H w v d u:=by
 have j:∀k ro esz els,d.get k=D (.row ro esz els)->i.get k=D (.row ro esz els):=λk ro esz els e=>by
  rcases p k with h|h
  ·rw[<-h];exact e
  ·rw[h]at e;cases e
 have get_map:∀k es,d.get k=D (.map es)->i.get k=D (.map es):=λk es e=>by
  rcases p k with h|h
  ·rw[<-h];exact e
  ·rw[h]at e;cases e
 have m:∀k t esz els,d.get k=D (.bU t esz els)->i.get k=D (.bU t esz els):=λk t esz els e=>by
  rcases p k with h|h
  ·rw[<-h];exact e
  ·rw[h]at e;cases e
 have s:∀k,d.rw k->i.rw k:=λk h=>by
  rcases h with⟨a,b,h⟩|⟨a,h⟩|⟨a,b,c,h⟩
  ·exact .inl ⟨a,b,j _ _ _ _ h⟩
  ·exact .inr (.inl ⟨a,get_map _ _ h⟩)
  ·exact .inr (.inr ⟨a,b,c,m _ _ _ _ h⟩)
 have z:∀k,d.live k->i.live k:=λk h=>by
  rcases h with⟨a,b,c,h⟩|⟨a,h⟩|⟨a,b,c,h⟩
  ·exact .inl ⟨a,b,c,j _ _ _ _ h⟩
  ·exact .inr (.inl ⟨a,get_map _ _ h⟩)
  ·exact .inr (.inr ⟨a,b,c,m _ _ _ _ h⟩)
 refine⟨h.le,by rw[q];exact h.next,λl y=>h.aX l (by rw[<-q];exact y),⟨λl ro esz els e=>h.rel.row l ro esz els (j _ _ _ _ e),λl es e=>h.rel.map l es (get_map _ _ e),λl t esz els e=>h.rel.bU l t esz els (m _ _ _ _ e),λl l' a b n o=>h.rel.apart l l' a b (s _ n) (z _ o)⟩,h.os,h.tape,h.output,h.size,h.frame,?_,λk esz els e=>h.ro k esz els (j _ _ _ _ e)⟩;rintro b ⟨l,loc,n,o,x⟩;exact h.own b ⟨l,loc,s _ n,o,x⟩
def Fu{ot:Option TypeId}{l i n esz c:Nat}{els os:List (List aa)}(d:H.get l=D (dw ot c els))(h:er H l i n esz=D os):c=esz/\i+n<=els.length/\os=(els.drop i).take n:=by
 unfold er at h;cases ot with
 |none=>
  rw[d]at h;simp only[dw]at h;split at h
  ·rename_i a;exact⟨a.1,a.2,(Option.some.inj h).symm⟩
  ·cases h
 |some t=>
  rw[d]at h;simp only[dw]at h;split at h
  ·rename_i a;exact⟨a.1,a.2,(Option.some.inj h).symm⟩
  ·cases h
def AH(y:Rel ρ H w)(L:ρ H.next=Z){ot:Option TypeId}{t dy e:TypeId}(aq:∀s,ot=D s->s=e)(ty:TypeId)(hu:P.underlying t=D (.slice e)){fY:Nat}{z:aa}{l i n:Nat}{cap:Option Nat}{loc:Loc}{a os:List (List aa)}(aC:cap=Z)(aD:¬a.length=0)(d:cn P e=D loc.esz)(ag:hf P e=D fY)(aw:eE P e=D z)
  (ax:z.cells.length=loc.esz) (au:0<loc.esz)
  (d1:∀e∈a,e.length=loc.esz) (d2:∀e∈a,∀v∈e,v.one=X) {news:List Value} (d3:bq ρ a.flatten news) {F:Value} (S:Src P loc.esz dy F a.length news w)
  (E:os.length=n) (bH:∀e∈os,e.length=loc.esz) (bX:∀e∈os,∀v∈e,v.one=X) {olds:List Value} (ck:bq ρ os.flatten olds) (m:Addr) (c:Nat)
  (hold:(Builtin.firstCells loc.esz n (.slice (D m) n c)).run P w.drew= .ok olds.toArray w.drew) (G:(n+a.length)*fY<=140737488355328/\n+a.length<=9223372036854775807)
  (Q:ρ l=D loc) (ad:0<c->m=⟨loc.block,loc.off+i*loc.esz,Z⟩/\loc.off+(i+c)*loc.esz<=loc.size) {W:Nat} {V:List (List aa)} (an:∀s,ot=D s->i=0) (o:H.get l=D (dw ot W V)) (ap:er H l i n loc.esz=D os):
  ∃r u x,(Builtin.append_ #[t,dy] ty #[.slice (D m) n c,F]).run P w= .ok r u/\bd x (.aA H.next 0 (n+a.length) loc.esz Z) r/\Step ρ H w x ((H.set l .dead).push (dw ot loc.esz (os++a))) u:=by
 obtain⟨aE,ao⟩:=Fu o ap;obtain⟨ay,al,⟨ah,arr,t0,az,K,M,aG⟩,-⟩:=rU y o;obtain rfl:loc=ay:=Option.some.inj (Q.symm.trans al);subst ah;obtain⟨ak,rfl⟩:=ao
 ·have E:=E;by_cases B:n+a.length<=c
  ·obtain⟨rfl,ai⟩:=ad af;have aH:=M.1;have aj:=M.2 rfl;have av:=IV (n:=n) y L o Q ak d1 d2 d3 (by
    refine Nat.le_trans (Nat.add_le_add_left (Nat.mul_le_mul_right _ ?_) _) ai;omega) an
   have aF:news.length=a.length*loc.esz:=by rw[<-d3.length,lD d1]
   have N:∀j,j<news.length->loc.off+i*loc.esz+n*loc.esz+j<arr.size:=by
    intro j q;have ab:(i+c)*loc.esz=i*loc.esz+c*loc.esz:=Nat.add_mul _ _ _;have aB:n*loc.esz+a.length*loc.esz<=c*loc.esz:=by rw[<-Nat.add_mul];exact Nat.mul_le_mul_right _ B
    omega
   cases A:P.info? e with
   |none=>unfold cn at d;rw[A]at d;cases d
   |some T=>
    have p:T.size=loc.esz:=by unfold cn at d;rw[A]at d;simpa using d
    have R:=run_append_room_src (P:=P) w t dy ty e T hu A loc.block (loc.off+i*loc.esz) n c F a.length news (by rw[p];exact S) B
     (λj q=>by rw[p];simp[World.cell?,K,N j q])
     (λj q=>by
      rw[p];have:=aj _ (N j q);simp only[World.frozen?,K];simpa using this)
    rw[p]at R;refine⟨_,_,_,R,?_,by rw[show loc.off+i*loc.esz+n*loc.esz=loc.off+(i+n)*loc.esz by rw[Nat.add_mul];omega];exact av⟩;refine bd.aA (ρ:=ρ.ec H.next _) H.next 0 (n+a.length) Z ⟨loc.block,loc.off+i*loc.esz,loc.esz,loc.size⟩ _ c (Env.gN _ _ _) B (λk h=>by cases h) (λ_=>⟨by simp,?_⟩)
    have ab:(i+c)*loc.esz=i*loc.esz+c*loc.esz:=Nat.add_mul _ _ _;simp only[Nat.zero_add];omega
  ·
    obtain⟨r,u,x,g1,g2,g3⟩:=uw y L (ot:=ot) aq ty hu d ag aw ax au d1 d2 d3 S bH bX ck (D m) n c E hold af G.1 G.2;refine⟨r,u,x,g1,g2,g3.dead (by simp) (λk=> ?_)⟩;have am:=ae.aS o;by_cases h:k=H.next
    ·subst h;left;rw[ae.bC];exact ae.bC (H.set l .dead) _
    ·by_cases O:k=l
     ·subst O;right;rw[ae.dp (by simpa using h),ae.get_set_same am]
     ·left;rw[ae.dp (by simpa using h),ae.get_set_other (Ne.symm O),ae.dp h]
def wC(z:Array Value):∀n,(Builtin.zeroCells z n).toList=(List.replicate n z.toList).flatten
 |0=>by simp[Builtin.zeroCells]
 |n+1=>by
  rw[List.replicate_succ,List.flatten_cons,<-wC z n];apply List.ext_getElem?;intro i;simp only[Builtin.zeroCells,Array.toList_map,Array.toList_range,List.getElem?_map];by_cases a:i<(n+1)*z.size
  ·have d:0<z.size:=by
    rcases Nat.eq_zero_or_pos z.size with h|h
    ·rw[h]at a;simp at a
    ·exact h
   rw[List.getElem?_range a];by_cases c:i<z.size
   ·rw[List.getElem?_append_left (by simpa using c)];simp[Nat.mod_eq_of_lt c,c]
   ·rw[List.getElem?_append_right (by simp;omega)];rw[Nat.succ_mul]at a;simp only[Array.length_toList,List.getElem?_map];rw[List.getElem?_range af];simp only[Option.map_some];rw[show i%z.size=(i-z.size)%z.size from Nat.mod_eq_sub_mod af]
  ·rw[List.getElem?_eq_none (by simp;omega)];rw[List.getElem?_append_right (by simp;rw[Nat.succ_mul]at a;omega)];rw[List.getElem?_eq_none]
   ·rfl
   ·rw[Nat.succ_mul]at a;simp;omega
def Kj(t dy ty e:TypeId)(i:TypeInfo)(z:Value)(m:P.underlying t=D (.slice e))(l:P.info? e=D i)(p:i.zero=D z)(o:P.underlying dy=D (.int .i64))(n:Nat)(y:0<n)(aB:0<i.size)
  (v:n*i.bytes<=140737488355328) (u:n<=1125899906842624) (x:Builtin.nextslicecap n 0*i.bytes<=281474976710656):
  (Builtin.append_ #[t,dy] ty #[.slice Z 0 0,.int .i64 n]).run P w=
   .ok (.slice (D ⟨w.heap.size,0,Z⟩) n (grownCap w n 0 e)) (w.drew.alloc (.cells (Builtin.zeroCells z.cells n++Builtin.zeroCells z.cells (grownCap w n 0 e-n)) e)):=by
 have hw:IntKind.i64.wrap (n:Int)=n:=IntWalk.i64_in n ⟨af,af⟩;have a:¬((n:Int)<0):=af;have c:¬((n:Int)*(i.bytes:Int)>281474976710656):=by
  have:((n*i.bytes:Nat):Int)<=140737488355328:=af;rw[Int.natCast_mul]at this;omega
 have q:¬(n<=0):=af;have d:¬(9223372036854775807<(n:Int)):=af;have j:¬(281474976710656<Builtin.nextslicecap n 0*i.bytes):=af;have k:¬(n*i.size=0):=by
  intro h;rcases Nat.mul_eq_zero.1 h with h|h<;>omega
 have s:¬(n=0\/i.size=0):=af;simp[Builtin.append_,run_underlying m,run_underlying o,sizeOf,typeInfo,zeroValue,l,p,a,c,d,j,hw,asInt,asIntOf,Question.forced,newRow,grownCap,Builtin.firstCells];rw[if_neg af,if_neg k]
def EG{ρ:Env}{cs:List aa}{xs:List Value}(h:bq ρ cs xs):∀n,bq ρ (List.replicate n cs).flatten (List.replicate n xs).flatten
 |0=> .nil
 |n+1=>by rw[List.replicate_succ,List.replicate_succ,List.flatten_cons,List.flatten_cons];exact h.append (EG h n)
def FH(K:Rel ρ H w){t dy e:TypeId}{s x a:aa}{s' B:Value}{H':ae}(ty:TypeId)(hu:P.underlying t=D (.slice e))(ad:P.underlying dy=D (.int .i64))(h:tC P H e s x=D (a,H'))(N:H.next<H'.next->ρ H.next=Z)(aB:bd ρ s s')(ab:bd ρ x B):
  ∃r A E,(Builtin.append_ #[t,dy] ty #[s',B]).run P w= .ok r A/\bd E a r/\Step ρ H w E H' A:=by
 unfold tC at h;split at h
 ·rename_i n;cases aB;cases ab;split at h
  ·rename_i esz fY z l j m;split at h
   ·rename_i L;obtain⟨S,y,V,T,o,G⟩:=L;simp only[aU,bY]at h;obtain⟨rfl,rfl⟩:=h;have M:=N (by simp);unfold eE at m;unfold cn at l;unfold hf at j;simp only[cR]at m;obtain⟨i,p,d,ah,ai⟩:=m;rw[p]at l j;simp only[Option.map_some,aU]at l j;subst l;subst j;have u:=(rY ai ρ).cells;have ag:d.cells.size=i.size:=by have:=u.length;rw[y]at this;simpa using this.symm
    have O:=growslice_fits (need:=n) (old:=0) (bytes:=i.bytes) af o;have W:=Kj (P:=P) (w:=w) t dy ty e i d hu p ah ad n S V o G (by simpa using O);have c:=qA (w:=w.drew) K.drew M (ot:=none) (esz:=i.size) (els:=List.replicate n z.cells) (λe he=>by rw[List.eq_of_mem_replicate he];exact y) (λe he v q=>by rw[List.eq_of_mem_replicate he]at q;exact List.all_eq_true.1 T v q)
     (xs:=(Builtin.zeroCells d.cells n).toList) (tail:=(Builtin.zeroCells d.cells (grownCap w n 0 e-n)).toList) (by rw[wC];exact EG u n) e (λ_ h=>by cases h)
    have F:((Builtin.zeroCells d.cells n).toList++(Builtin.zeroCells d.cells (grownCap w n 0 e-n)).toList).toArray=Builtin.zeroCells d.cells n++Builtin.zeroCells d.cells (grownCap w n 0 e-n):=by
     apply Array.ext';simp
    rw[F]at c;refine⟨_,_,_,W,?_,⟨c.le,c.next,c.aX,c.rel,c.os,c.tape,c.output,c.size,c.frame,c.own,c.ro⟩⟩;have Q:n<=grownCap w n 0 e:=grownCap_ge w n 0 e;refine bd.aA (ρ:=ρ.ec H.next _) H.next 0 n Z _ _ (grownCap w n 0 e) (Env.gN _ _ _) Q (λk R=>by cases R) (λ_=>⟨by show(⟨w.heap.size,0,Z⟩:Addr)=⟨w.heap.size,0+0*i.size,Z⟩;simp,?_⟩)
    simp only[Nat.zero_add,Array.length_toList,size_zeroCells,ag];rw[<-Nat.add_mul];exact Nat.mul_le_mul_right _ af
   ·cases h
  ·cases h
 ·cases h
def Fi(m:Rel ρ H w){ts:List TypeId}{s x a:aa}{s' E:Value}{H':ae}(ty:TypeId)(h:cQ P H ts s x=D (a,H'))(y:H.next<H'.next->ρ H.next=Z)(aB:bd ρ s s')(ai:bd ρ x E):
  ∃r aj ak,(Builtin.append_ ts.toArray ty #[s',E]).run P w= .ok r aj/\bd ak a r/\Step ρ H w ak H' aj:=by
 unfold cQ at h;split at h
 ·rename_i t dy;split at h
  ·rename_i e hu;split at h
   ·rename_i an;exact FH m ty hu (HH an) h y aB ai
   split at h
   ·rename_i esz fY z q F L;split at h
    ·rename_i N aq;obtain⟨d1,d2,news,d3,B⟩:=FQ (P:=P) m aq ai;split at h
     ·rename_i av;obtain⟨M,K⟩:=av;have ag:N.length=0->Src P esz dy E 0 [] w:=λd=>by
       have:N=[]:=List.eq_nil_of_length_eq_zero d;subst this;have:news=[]:=by cases d3;rfl
       subst this;simpa using B
      split at h
      ·cases aB;split at h
       ·rename_i d;simp only[aU,bY]at h;obtain⟨rfl,rfl⟩:=h;exact⟨_,_,_,C8 w t dy ty e hu q Z 0 0 (bk _) E (ag d),.ar,Step.refl m⟩
       ·rename_i d;split at h
        ·rename_i p;simp only[aU,bY]at h;obtain⟨rfl,rfl⟩:=h;have R:=y (by simp);have:=uw m R (FZ (x:=x)) ty hu q F L M K d1 d2 d3 B (os:=[]) (by simp) (by simp) (olds:=[]) (by simpa using bq.nil) Z 0 0 rfl
          (run_firstCells_none w.drew esz 0 0 0) af (by simpa using p.1) (by simpa using p.2)
         simpa using this
        ·cases h
      ·rename_i l i n ax cap;split at h
       ·rename_i he;split at h
        ·rename_i d;simp only[aU,bY]at h;obtain⟨rfl,rfl⟩:=h;cases aB with|aA _ _ _ _ loc o c A T O v=>
         exact⟨_,_,_,C8 w t dy ty e hu q (D o) n c T E (ag d),.aA l i n cap loc o c A T O v,Step.refl m⟩
        ·rename_i d;split at h
         ·rename_i p;split at h
          ·rename_i os V;cases aB with|aA _ _ _ _ loc o c A T O v=>
           subst he;obtain⟨W,bH,bX,olds,ck,dr,aw,ay⟩:=tt m V A;have hold:(Builtin.firstCells loc.esz n (.slice (D o) n c)).run P w.drew= .ok olds.toArray w.drew:=by
            refine run_firstCells_some w.drew loc.esz n o n c olds dr (λj u ad=> ?_);have ap:0<c:=by
             rcases Nat.eq_zero_or_pos c with d|d
             ·have au:n=0:=af;rw[au]at dr;have:olds=[]:=List.eq_nil_of_length_eq_zero (by simpa using dr);subst this;simp at ad
             ·exact d
            obtain⟨rfl,_⟩:=v ap;rw[j0];exact aw j u ad
           split at h
           ·rename_i G;simp only[aU,bY]at h;obtain⟨rfl,rfl⟩:=h;have R:=y (by simp);have ao:c<n+N.length:=by
             cases Q:cap with
             |none=>rw[Q]at G;simp at G
             |some k=>rw[Q]at G;simp at G;have:=O k Q;omega
            exact uw m R (ot:=none) (λ_ h=>by cases h) ty hu q F L M K d1 d2 d3 B bH bX ck (D o) n c W hold ao p.1 p.2
           ·split at h
            ·rename_i ab;split at h
             ·rename_i al am S;simp only[aU,bY]at h;obtain⟨rfl,rfl⟩:=h;exact AH m (y (by simp)) (ot:=none) (λ_ h=>by cases h) ty hu ab d q F L M K d1 d2 d3 B W bH bX ck o c hold p A v (λ_ h=>by cases h) S V
             ·rename_i t0 al am S;split at h
              ·rename_i ah;simp only[aU,bY]at h;obtain⟨rfl,rfl⟩:=h;exact AH m (y (by simp)) (ot:=some t0) (λ_ h=>by rw[<-Option.some.inj h];exact ah.1) ty hu ab d q F L M K d1 d2 d3 B W bH bX ck o c hold p A v (λ_ _=>ah.2) S V
              ·cases h
             ·cases h
            ·cases h
          ·cases h
         ·cases h
       ·cases h
      ·cases h
     ·cases h
    ·cases h
   ·cases h
  ·cases h
 ·cases h
end
section
variable {P:Program}{ρ:Env}{H:ae}{w:World}
def tx(P:Program)(H:ae)(t:TypeId)(x:aa):Option aa:=
 match P.underlying t,x with
 |some .string,.str s=>D (.int .i64 s.length)
 |some (.slice _),.aA _ _ n _ _=>D (.int .i64 n)
 |some (.slice _),.ar=>D (.int .i64 0)
 |some (.array n _),_=>D (.int .i64 n)
 |some (.map _ _),.ho=>D (.int .i64 0)
 |some (.map _ _),.map l=>(match H.get l with|some (.map es)=>D (.int .i64 es.length)|_=>Z)
 |_,_=>Z
def pY{l:Nat}{es:List (aa×aa)}(e:Rel ρ H w)(h:H.get l=D (.map es)){loc:Loc}(i:ρ l=D loc):
  ∃ents clock,w.heap[loc.block]? =D (.map ents clock)/\(getObj loc.block).run P w= .ok (.map ents clock) w/\bq ρ (es.map (·.1)) (ents.toList.map (·.key))/\bq ρ (es.map (·.2)) (ents.toList.map (·.val)):=by
 obtain⟨k,j,ents,clock,a,c,d⟩:=e.map _ _ h;obtain rfl:loc=k:=Option.some.inj (i.symm.trans j);exact⟨ents,clock,a,by simp[getObj,Sem.run,a],c,d⟩
def FA(i:Rel ρ H w){t:TypeId}{x v:aa}{c:Value}(ty:TypeId)(h:tx P H t x=D v)(a:bd ρ x c):∃r,(Builtin.len_ #[t] ty #[c]).run P w= .ok r w/\bd ρ v r:=by
 unfold tx at h;split at h
 ·rename_i s hu;cases a;simp only[aU]at h;subst h;have aB:(⟨s.toArray⟩:ByteArray).size=s.length:=by show s.toArray.size=_;simp
  exact⟨_,by simp[Builtin.len_,run_underlying hu,goInt,aB],.int _ _⟩
 ·rename_i hu;cases a;simp only[aU]at h;subst h;exact⟨_,by simp[Builtin.len_,run_underlying hu,goInt],.int _ _⟩
 ·rename_i hu;cases a;simp only[aU]at h;subst h;exact⟨_,by simp[Builtin.len_,run_underlying hu,goInt],.int _ _⟩
 ·rename_i n e hu;simp only[aU]at h;subst h;exact⟨_,by simp[Builtin.len_,run_underlying hu,goInt],.int _ _⟩
 ·rename_i hu;cases a;simp only[aU]at h;subst h;exact⟨_,by simp[Builtin.len_,run_underlying hu,goInt],.int _ _⟩
 ·rename_i hu;cases a with|map _ loc l=>
  split at h
  ·rename_i es j;simp only[aU]at h;subst h;obtain⟨ents,clock,o,k,d,m⟩:=pY (P:=P) i j l;have hlen:=d.length;simp only[List.length_map,Array.length_toList]at hlen;exact⟨_,by simp[Builtin.len_,run_underlying hu,goInt,k,<-hlen],.int _ _⟩
  ·cases h
 ·cases h
def rj(x y:aa):Option aa:=
 match x,y with
 | .int k a,.int _ b=>D (.int k (if a<b then b else a))
 |_,_=>Z
def rk(x y:aa):Option aa:=
 match x,y with
 | .int k a,.int _ b=>D (.int k (if b<a then b else a))
 |_,_=>Z
def FJ{x y v:aa}{a c:Value}(ts:Array TypeId)(ty:TypeId)(h:rj x y=D v)(d:bd ρ x a)(e:bd ρ y c)(w:World):∃r,(Builtin.max_ ts ty #[a,c]).run P w= .ok r w/\bd ρ v r:=by
 unfold rj at h;split at h
 ·cases d;cases e;simp only[aU]at h;subst h;exact⟨_,by simp[Builtin.max_,Builtin.max2],.int _ _⟩
 ·cases h
def FL{x y v:aa}{a c:Value}(ts:Array TypeId)(ty:TypeId)(h:rk x y=D v)(d:bd ρ x a)(e:bd ρ y c)(w:World):∃r,(Builtin.min_ ts ty #[a,c]).run P w= .ok r w/\bd ρ v r:=by
 unfold rk at h;split at h
 ·cases d;cases e;simp only[aU]at h;subst h;exact⟨_,by simp[Builtin.min_,Builtin.min2],.int _ _⟩
 ·cases h
def eg(x:aa)(i:Nat):Option aa:=
 match x with
 | .tuple a=>a[i]?
 |_=>Z
def Fv{x v:aa}{a:Value}{i:Nat}(h:eg x i=D v)(e:bd ρ x a)(w:World):∃r,(Instr.extract a i).run P w= .ok r w/\bd ρ v r:=by
 unfold eg at h;split at h
 ·cases e with|tuple _ xs aB=>
  obtain⟨r,c,d⟩:=aB.get _ _ h;exact⟨r,by simp[Instr.extract,c],d⟩
 ·cases h
def lu(P:Program)(src dst:TypeId)(x:aa):Option aa:=
 match P.underlying src,P.underlying dst,x with
 |some _,D (.int k),.int _ n=>D (.int k (k.wrap n))
 |some _,D .string,.str s=>D (.str s)
 |_,_,_=>Z
def Fs{src dst:TypeId}{x v:aa}{d:Value}(h:lu P src dst x=D v)(c:bd ρ x d)(w:World):∃r,(convert src dst d).run P w= .ok r w/\bd ρ v r:=by
 unfold lu at h;split at h
 ·rename_i aB a;cases c;simp only[aU]at h;subst h;exact⟨_,by simp[convert,run_underlying aB,run_underlying a,Conv.intToInt],.int _ _⟩
 ·rename_i aB a;cases c;simp only[aU]at h;subst h;exact⟨_,by simp[convert,run_underlying aB,run_underlying a],.str _⟩
 ·cases h
def byteOf:List aa->Option UInt8
 |[.int .u8 n]=>D (UInt8.ofNat n.toNat)
 |_=>Z
def bytesOf:List (List aa)->Option (List UInt8)
 |[]=>D []
 |e::r=>match byteOf e,bytesOf r with
  |some b,D l=>D (b::l)
  |_,_=>Z
def ml(P:Program)(H:ae)(src dst:TypeId)(x:aa):Option aa:=
 match P.underlying src,P.underlying dst,x with
 |some (.slice e),D .string,.aA l i n esz _=>
  (match P.underlying e,er H l i n esz with
  |some (.int .u8),D a=>if esz=1 then(bytesOf a).map .str else Z
  |_,_=>Z)
 |some (.slice e),D .string,.ar=>(match P.underlying e with|some (.int .u8)=>D (.str [])|_=>Z)
 |_,_,_=>Z
def x1(f:Value->ByteArray->Sem (ForInStep ByteArray))(j:∀n s,f (.int .u8 n) s=pure (ForInStep.yield (s.push (UInt8.ofNat n.toNat)))):∀(e:List (List aa)) (c:List UInt8),bytesOf e=D c->∀(xs:List Value),bq ρ e.flatten xs->∀(acc:ByteArray),
  (forIn xs acc f).run P w= .ok (acc++⟨c.toArray⟩) w
 |[],c,h,xs,i,acc=>by
  simp[bytesOf]at h;subst h;cases i;have:acc++(⟨#[]⟩:ByteArray)=acc:=by apply ByteArray.ext;simp
  simp[Sem.run_pure,this]
 |d::e,c,h,xs,i,acc=>by
  unfold bytesOf at h;split at h
  ·rename_i b l a k;simp only[aU]at h;subst h;unfold byteOf at a;split at a
   ·rename_i n;simp only[aU]at a;subst a;cases i with|cons _ x _ q m o=>
    cases m;have p:=x1 f j e l k q o (acc.push (UInt8.ofNat n.toNat));rw[List.forIn_cons];simp only[Sem.run_bind,j,Sem.run_pure,Result.andThen_ok];rw[p]
    congr 1
    apply ByteArray.ext;simp
   ·cases a
  ·cases h
def Fm(z:Rel ρ H w){src dst:TypeId}{x v:aa}{q:Value}(h:ml P H src dst x=D v)(p:bd ρ x q):∃r,(convert src dst q).run P w= .ok r w/\bd ρ v r:=by
 unfold ml at h;split at h
 ·rename_i e l i n esz cap aB k;split at h
  ·rename_i s he F;split at h
   ·rename_i y;simp only[Option.map_eq_some_iff]at h;obtain⟨d,B,rfl⟩:=h;cases p with|aA _ _ _ _ loc a c K O N A=>
    obtain⟨R,bH,bX,xs,ck,dr,M,S⟩:=tt z F K;refine⟨.string ⟨d.toArray⟩,?_,.str _⟩;have L:(loadCells a n).run P w= .ok xs.toArray w:=by
     rw[y,Nat.mul_one]at dr;rw[<-dr];refine run_loadCells_list w a xs (λj u o=> ?_);have E:0<c:=by
      rcases Nat.eq_zero_or_pos c with m|m
      ·have Q:n=0:=af;have:xs=[]:=List.eq_nil_of_length_eq_zero af;subst this;simp at o
      ·exact m
     obtain⟨rfl,_⟩:=A E;rw[j0];exact M j u o
    have G:ByteArray.empty++(⟨d.toArray⟩:ByteArray)=⟨d.toArray⟩:=by apply ByteArray.ext;simp
    simp only[convert,Sem.run_bind,run_underlying aB,run_underlying k,run_underlying he,Result.andThen_ok,Conv.bytesToString,L];rw[<-Array.forIn_toList];show((Sem.run P (forIn xs ByteArray.empty _) w).andThen _)=_;rw[x1 (P:=P) (w:=w) _ (λ_ _=>rfl) s d B xs ck ByteArray.empty,G];rfl
   ·cases h
  ·cases h
 ·rename_i e aB k;cases p;split at h
  ·rename_i he;simp only[aU]at h;subst h;exact⟨.string ⟨#[]⟩,by simp[convert,run_underlying aB,run_underlying k,run_underlying he,Conv.bytesToString];rfl,.str []⟩
  ·cases h
 ·cases h
def ri(P:Program)(H:ae)(t:TypeId)(l c:aa):Option (aa×ae):=
 match P.underlying t,l,c with
 |some (.slice e),.int d n,.int h m=>
  (match cn P e,hf P e,eE P e with
  |some a,D fY,D z=>
   if d= .i64/\h= .i64/\0<=n/\n<=m/\m<=9223372036854775807/\(fY:Int)*m<=281474976710656/\z.cells.length=a/\0<a/\z.cells.all aa.one=X then
    D (.aA H.next 0 n.toNat a (D m.toNat),H.push (.row U a (List.replicate m.toNat z.cells)))
   else Z
  |_,_,_=>Z)
 |_,_,_=>Z
def wrap_i64{n:Int}(a:0<=n)(c:n<=9223372036854775807):IntKind.i64.wrap n=n:=IntWalk.i64_in n ⟨af,af⟩
def FI(G:Rel ρ H w)(M:ρ H.next=Z){t:TypeId}{l c a:aa}{l' c':Value}{H':ae}(h:ri P H t l c=D (a,H'))(O:bd ρ l l')(K:bd ρ c c'):
  ∃r E F,(Instr.makeSlice t l' c').run P w= .ok r E/\bd F a r/\Step ρ H w F H' E:=by
 unfold ri at h;split at h
 ·rename_i e al n am m hu;cases O;cases K;split at h
  ·rename_i i fY z d k ab;split at h
   ·rename_i L;obtain⟨rfl,rfl,s,v,x,ah,A,ak,R⟩:=L;simp only[aU,bY]at h;obtain⟨rfl,rfl⟩:=h;obtain⟨q,ag,ad⟩:=ly ab w;have S:∀u∈z.cells,u.one=true:=by simpa using R
    have y:=(ad ρ).cells;have p:q.cells.size=i:=by have:=y.length;rw[<-A,this];simp
    have T:=bq.ug y m.toNat;have aB:=qA G M (ot:=none) (esz:=i) (els:=List.replicate m.toNat z.cells) (λe he=>by rw[List.eq_of_mem_replicate he];exact A)
     (λe he=>by rw[List.eq_of_mem_replicate he];exact S) T (tail:=[]) e (λ_ h=>by cases h)
    cases j:P.info? e with
    |none=>unfold cn at d;rw[j]at d;cases d
    |some B=>
     have ai:B.size=i:=by unfold cn at d;rw[j]at d;simpa using d
     have N:B.bytes=fY:=by unfold hf at k;rw[j]at k;simpa using k
     have hlen:(List.replicate m.toNat q.cells.toList).flatten.length=m.toNat*i:=by simp[p]
     refine⟨.slice (D ⟨w.heap.size,0,Z⟩) n.toNat m.toNat,_,_,?_,?_,aB⟩
     ·have V:=wrap_i64 s (Int.le_trans v x);have W:=wrap_i64 (Int.le_trans s v) x;have aj:¬(m<0\/281474976710656<(fY:Int)*m):=af;have hzero:=E2 q.cells m.toNat af;rw[p]at hzero;simp only[Instr.makeSlice,Sem.run_bind,run_underlying hu,Result.andThen_ok,asInt,asIntOf,Sem.run_pure,typeInfo,j,N,V,W,run_program];rw[if_neg (by simp;omega)];simp only[Sem.run_bind,run_askRoom,Result.andThen_ok,run_sizeOf d];by_cases o:m.toNat*i=0
      ·simp only[o,if_true];have Q:m.toNat=0:=by rcases Nat.mul_eq_zero.1 o with h|h<;>omega
       have eh:Array.range 0= #[]:=rfl;simp[newRow,eh,Q]
      ·simp only[o,if_false,Sem.run_bind,ag,Result.andThen_ok,Sem.run_pure,p,hzero];simp[newRow]
     ·refine bd.aA (ρ:=ρ.ec H.next _) H.next 0 n.toNat (D m.toNat) ⟨w.heap.size,0,i,_⟩ _ m.toNat (Env.gN _ _ _) af (by simp) (λ_=>⟨by simp,?_⟩)
      simp only[Nat.zero_add,hlen];simp
   ·cases h
  ·cases h
 ·cases h
def tq(P:Program)(t:TypeId)(x:aa):Option aa:=
 match P.underlying t,x with
 |some (.slice _),.aA _ _ _ _ (D k)=>D (.int .i64 k)
 |some (.slice _),.ar=>D (.int .i64 0)
 |_,_=>Z
def Fp{t:TypeId}{x v:aa}{j:Value}(ty:TypeId)(h:tq P t x=D v)(d:bd ρ x j)(w:World):∃r,(Builtin.cap_ #[t] ty #[j]).run P w= .ok r w/\bd ρ v r:=by
 unfold tq at h;split at h
 ·rename_i e l i n esz k hu;cases d with|aA _ _ _ _ loc a c p q m o=>
  obtain rfl:=m k rfl;simp only[aU]at h;subst h;exact⟨_,by simp[Builtin.cap_,run_underlying hu,goInt],.int _ _⟩
 ·rename_i e hu;cases d;simp only[aU]at h;subst h;exact⟨_,by simp[Builtin.cap_,run_underlying hu,goInt],.int _ _⟩
 ·cases h
def Df(b:Nat):∀(xs a:List Value) (ai:Nat) (w:World),w.setCells b ai (xs++a)=(w.setCells b ai xs).setCells b (ai+xs.length) a
 |[],a,ai,w=>by simp[World.setCells]
 |x::xs,a,ai,w=>by
  simp only[List.cons_append,World.setCells];rw[Df b xs a,List.length_cons,show ai+1+xs.length=ai+(xs.length+1) by omega]
def mx(H:ae)(l:Nat)(cs:List aa):Nat->Nat->Option ae
 |_,0=>D H
 |i,k+1=>match H.get l with
  |some (.row U esz els)=>(match els[i]? with
   |some e=>if cs.length=esz then(mx (H.set l (.row U esz (els.set i (cI e 0 cs)))) l cs (i+1) k)else Z
   |none=>Z)
  |_=>Z
def x7{l:Nat}{loc:Loc}{cs:List aa}{xs:List Value}(d:bq ρ cs xs)(j:∀v∈cs,v.one=X)(m:ρ l=D loc)(hlen:cs.length=loc.esz):
  ∀(k i:Nat) (H H':ae) (w:World),Rel ρ H w->mx H l cs i k=D H'->Step ρ H w ρ H' (w.setCells loc.block (loc.off+i*loc.esz) (List.replicate k xs).flatten)
 |0,i,H,H',w,a,h=>by
  simp only[mx,aU]at h;subst h;simpa [World.setCells]using Step.refl a
 |k+1,i,H,H',w,a,h=>by
  unfold mx at h;split at h
  ·rename_i esz els n;split at h
   ·rename_i e he;split at h
    ·rename_i o;have s1:=wB a (ot:=none) n m he (c:=0) (cs:=cs) af j d;have s2:=x7 d j m hlen k (i+1) _ H' _ s1.rel h;have e4:=s1.trans s2;rw[List.replicate_succ,List.flatten_cons,Df,<-d.length,hlen,show loc.off+i*loc.esz+loc.esz=loc.off+(i+1)*loc.esz by rw[Nat.succ_mul];omega];exact e4
    ·cases h
   ·cases h
  ·cases h
def Gz{l:Nat}{cs:List aa}:∀{k i:Nat} {H H':ae},0<k->mx H l cs i k=D H'->∃esz els,H.get l=D (.row U esz els)/\cs.length=esz
 |0,_,_,_,h,_=>af
 |k+1,i,H,H',_,h=>by
  unfold mx at h;split at h
  ·rename_i esz els c;split at h
   ·split at h
    ·rename_i a;exact⟨esz,els,c,a⟩
    ·cases h
   ·cases h
  ·cases h
def rf(P:Program)(H:ae)(ts:List TypeId)(x:aa):Option ae:=
 match ts with
 |[t]=>(match P.underlying t with
  |some (.slice e)=>(match x with
   | .ar=>D H
   | .aA l i n _ _=>if n=0 then D H else(match eE P e with
    |some z=>if z.cells.all aa.one=X then mx H l z.cells i n else Z
    |none=>Z)
   |_=>Z)
  |_=>Z)
 |_=>Z
def Fq(k:Rel ρ H w){ts:List TypeId}{x:aa}{N:Value}{H':ae}(ty:TypeId)(h:rf P H ts x=D H')(L:bd ρ x N):
  ∃M,(Builtin.clear_ ts.toArray ty #[N]).run P w= .ok (.tuple #[]) M/\Step ρ H w ρ H' M:=by
 unfold rf at h;split at h
 ·rename_i t;split at h
  ·rename_i e hu;split at h
   ·cases L;simp only[aU]at h;subst h;exact⟨w,by simp[Builtin.clear_,run_underlying hu],Step.refl k⟩
   ·rename_i l i n esz cap;cases L with|aA _ _ _ _ loc a c F ad ax O=>
    split at h
    ·rename_i p;subst p;simp only[aU]at h;subst h;exact⟨w,by simp[Builtin.clear_,run_underlying hu],Step.refl k⟩
    ·rename_i p;split at h
     ·rename_i z an;split at h
      ·rename_i ag;have G:∀v∈z.cells,v.one=true:=List.all_eq_true.1 ag;obtain⟨y,ak,am⟩:=ly an w;have o:=(am ρ).cells;obtain⟨aq,els,V,Q⟩:=Gz af h;obtain⟨ao,W,S,arr,t0,au,s,A,az⟩:=k.row _ _ _ _ V;obtain rfl:loc=ao:=Option.some.inj (F.symm.trans W);have aC:=A.1;have T:=A.2 rfl;have hlen:z.cells.length=loc.esz:=by rw[Q,S]
       have R:0<c:=af;obtain⟨rfl,ay⟩:=O R;have aB:=x7 o G F hlen n i H H' w k h;have al:y.cells.toList.length=loc.esz:=by rw[<-o.length];exact hlen
       have q:((List.replicate n y.cells.toList).flatten).length=n*loc.esz:=by simp[al]<;>rfl
       have B:∀j,j<n*loc.esz->loc.off+i*loc.esz+j<arr.size:=by
        intro j d;have av:(i+c)*loc.esz=i*loc.esz+c*loc.esz:=Nat.add_mul _ _ _;have aw:n*loc.esz<=c*loc.esz:=Nat.mul_le_mul_right _ ad;omega
       have K:=run_storeCells_cells (P:=P) loc.block (loc.off+i*loc.esz) (List.replicate n y.cells.toList).flatten 0 w
        (λj d=>by rw[q]at d;simp[World.cell?,s,B j d])
        (λj d=>by
         rw[q]at d;have:=T _ (B j d);simp only[World.frozen?,s,Nat.add_zero];simpa using this)
        (λu hu=>by
         obtain⟨aD,ab,ai⟩:=List.mem_flatten.1 hu;obtain rfl:=List.eq_of_mem_replicate ab;obtain⟨j,d⟩:=List.getElem?_of_mem ai;have E:j<z.cells.length:=by
          rcases Nat.lt_or_ge j y.cells.toList.length with h|h
          ·omega
          ·rw[List.getElem?_eq_none h]at d;cases d
         obtain⟨ap,ah,aj⟩:=o.get j _ (List.getElem?_eq_getElem E);obtain rfl:u=ap:=Option.some.inj (d.symm.trans ah);exact aj.vb (G _ (List.getElem_mem E)))
       rw[<-wC]at K aB;refine⟨_,?_,aB⟩;cases n with
       |zero=>omega
       |succ m=>
        simp only[Builtin.clear_];simp[run_underlying hu,ak];rw[K];simp
      ·cases h
     ·cases h
   ·cases h
  ·cases h
 ·cases h
end
section
variable {P:Program}{ρ:Env}{H:ae}{w:World}
def og(d:TypeDesc)(a b:aa):Option Bool:=
 match d,a,b with
 | .int _,.int k x,.int c y=>if k=c then D (x==y)else Z
 | .string,.str x,.str y=>D (x==y)
 | .bool,.bool x,.bool y=>D (x==y)
 |_,_,_=>Z
def nY(d:TypeDesc)(k:aa):List (aa×aa)->Nat->Option (Option (Nat×aa))
 |[],_=>D Z
 |e::es,i=>match og d k e.1 with
  |some X=>D (D (i,e.2))
  |some U=>nY d k es (i+1)
  |none=>Z
def AQ{d:TypeDesc}{a b:aa}{bZ cx:Value}{r:Bool}(h:og d a b=D r)(c:bd ρ a bZ)(e:bd ρ b cx):Instr.sameNow d bZ cx=D r:=by
 unfold og at h;split at h
 ·cases c;cases e;split at h
  ·rename_i i;subst i;simpa [Instr.sameNow]using h
  ·cases h
 ·cases c;cases e;simp only[aU]at h;subst h;simp[Instr.sameNow,vX]
 ·cases c;cases e;simpa [Instr.sameNow]using h
 ·cases h
inductive pv(ρ:Env):Option (Nat×aa)->Option (Nat×Value)->Prop where
 |none:pv ρ none none
 |some (i:Nat) (v:aa) (x:Value) (h:bd ρ v x):pv ρ (some (i,v)) (some (i,x))
def pF{d:TypeDesc}{k:aa}{o:Value}(n:bd ρ k o):∀(es:List (aa×aa)) (ents:List MapEntry) (i:Nat) (r:Option (Nat×aa)),nY d k es i=D r->
  bq ρ (es.map (·.1)) (ents.map (·.key))->bq ρ (es.map (·.2)) (ents.map (·.val))->∃cU,Instr.findNow d o ents i=D cU/\pv ρ r cU/\∀j v,r=D (j,v)->i<=j/\j<i+es.length/\∃e,es[j-i]? =D e/\og d k e.1=D X
 |[],ents,i,r,h,a,c=>by
  simp[nY]at h;subst h;have:ents=[]:=by
   have:=a.length;simp at this;exact List.eq_nil_of_length_eq_zero this.symm
  subst this;exact⟨Z,rfl,.none,λj v h=>by cases h⟩
 |e::es,[],i,r,h,a,c=>by have:=a.length;simp at this
 |e::es,m::ents,i,r,h,a,c=>by
  simp only[List.map_cons]at a c;cases a with|cons _ _ _ _ aR p=>
  cases c with|cons _ _ _ _ a2 q=>
  unfold nY at h;unfold Instr.findNow;split at h
  ·rename_i aB;simp only[aU]at h;subst h;rw[AQ aB n aR];exact⟨_,rfl,.some i _ _ a2,λj v l=>by
    simp only[aU,bY]at l;obtain⟨rfl,_⟩:=l;exact⟨bk _,by simp,e,by simp,aB⟩⟩
  ·rename_i aB;rw[AQ aB n aR];obtain⟨cU,u,w,x⟩:=pF n es ents (i+1) r h p q;refine⟨cU,u,w,λj v l=> ?_⟩;obtain⟨A,B,s,y,z⟩:=x j v l;refine⟨af,by simp;omega,s,?_,z⟩;rw[show j-i=(j-(i+1))+1 by omega];simpa using y
  ·cases h
def plainKey(d:TypeDesc):Bool:=
 match d with
 | .int _| .string| .bool=>X
 |_=>U
def rp{t:TypeId}{d:TypeDesc}(hu:P.underlying t=D d)(aG:plainKey d=X)(empty:Bool)(v:Value)(n:Nat)(w:World):(Instr.checkKey empty (n+1) t v).run P w= .ok () w:=by
 unfold Instr.checkKey;simp only[Sem.run_bind,run_underlying hu,Result.andThen_ok];cases d<;>simp[plainKey]at aG<;>rfl
def oB(P:Program)(d:TypeDesc)(k:aa):Bool:=
 match d,k with
 | .array 2 e,.agg cs=>(match P.underlying e with|some (.int _)=>X|_=>U)&&(match cn P e with|some n=>(apart P e cs (0*n)).isSome&&(apart P e cs (1*n)).isSome|none=>U)
 |_,_=>U
def tR{t:TypeId}{d:TypeDesc}{k:aa}{i:Value}(hu:P.underlying t=D d)(aG:oB P d k=X)(s:bd ρ k i)(empty:Bool)(n:Nat)(w:World):(Instr.checkKey empty (n+2) t i).run P w= .ok () w:=by
 unfold oB at aG;split at aG
 ·rename_i e cs;simp only[Bool.and_eq_true]at aG;obtain⟨c,a⟩:=aG;split at c
  ·rename_i u he;split at a
   ·rename_i m hm;simp only[Bool.and_eq_true]at a;obtain⟨a0,o⟩:=Option.isSome_iff_exists.1 a.1;obtain⟨aR,p⟩:=Option.isSome_iff_exists.1 a.2;cases s with|agg _ xs h=>
    obtain⟨ag,j,_⟩:=lx o h w;obtain⟨av,l,_⟩:=lx p h w;have q:∀v:Value,(Instr.checkKey empty (n+1) e v).run P w= .ok () w:=λv=>rp he rfl empty v n w
    unfold Instr.checkKey;simp only[Sem.run_bind,run_underlying hu,Result.andThen_ok];rw[Std.Legacy.Range.forIn_eq_forIn_range'];simp only[Nat.zero_mul,Nat.one_mul]at j l;simp[List.range',run_sizeOf hm,j,l,q]
   ·cases a
  ·cases c
 ·cases aG
def mm(P:Program)(a:TypeId)(k:aa):List (aa×aa)->Nat->Option (Option (Nat×aa))
 |[],_=>D Z
 |e::es,i=>match jt P 10000 a k e.1 with
  |some X=>D (D (i,e.2))
  |some U=>mm P a k es (i+1)
  |none=>Z
def w9{j:TypeId}{k:aa}{d:Value}(l:bd ρ k d)(w:World):∀(es:List (aa×aa)) (ents:List MapEntry) (i:Nat) (r:Option (Nat×aa)),mm P j k es i=D r->
  bq ρ (es.map (·.1)) (ents.map (·.key))->bq ρ (es.map (·.2)) (ents.map (·.val))->∃cU,(Instr.findAsking j d ents i).run P w= .ok cU w/\pv ρ r cU
 |[],ents,i,r,h,a,c=>by
  simp[mm]at h;subst h;have:ents=[]:=by
   have:=a.length;simp at this;exact List.eq_nil_of_length_eq_zero this.symm
  subst this;exact⟨Z,rfl,.none⟩
 |e::es,[],i,r,h,a,c=>by have:=a.length;simp at this
 |e::es,m::ents,i,r,h,a,c=>by
  simp only[List.map_cons]at a c;cases a with|cons _ _ _ _ aR n=>
  cases c with|cons _ _ _ _ a2 o=>
  unfold mm at h;unfold Instr.findAsking;split at h
  ·rename_i aB;simp only[aU]at h;subst h;have he:(Op.equal j d m.key).run P w= .ok X w:=pS (ρ:=ρ) w _ _ _ _ _ _ _ aB l aR;exact⟨_,by simp[he],.some i _ _ a2⟩
  ·rename_i aB;have he:(Op.equal j d m.key).run P w= .ok U w:=pS (ρ:=ρ) w _ _ _ _ _ _ _ aB l aR;obtain⟨cU,p,q⟩:=w9 l w es ents (i+1) r h n o;exact⟨cU,by simp[he,p],q⟩
  ·cases h
def GZ{n:Nat}{e:TypeId}{a:Value}:∀(ents:List MapEntry) (i:Nat),Instr.findNow (.array n e) a ents i=match ents with|[]=>D Z|_=>Z
 |[],_=>rfl
 |m::_,i=>by cases a<;>rfl
def ub{a:TypeId}{d:TypeDesc}{k:aa}{i:Value}(hu:P.underlying a=D d)(aG:oB P d k=X)(p:bd ρ k i)(w:World){es:List (aa×aa)}{ents:List MapEntry}{r:Option (Nat×aa)}(h:mm P a k es 0=D r)
  (j:bq ρ (es.map (·.1)) (ents.map (·.key))) (l:bq ρ (es.map (·.2)) (ents.map (·.val))):∃cU,(Instr.findKey a i ents).run P w= .ok cU w/\pv ρ r cU:=by
 obtain⟨n,e,rfl⟩:∃n e,d= .array n e:=by
  unfold oB at aG;split at aG
  ·exact⟨_,_,rfl⟩
  ·cases aG
 obtain⟨cU,c,o⟩:=w9 (P:=P) p w es ents 0 r h j l;refine⟨cU,?_,o⟩;unfold Instr.findKey;simp only[Sem.run_bind,run_underlying hu,Result.andThen_ok,GZ];cases ents with
 |nil=>exact c
 |cons m ents=>exact c
def rh(P:Program)(H:ae)(t:TypeId)(x k:aa)(a:Bool):Option aa:=
 match P.underlying t with
 |some (.map c e)=>
  (match P.underlying c,eE P e with
  |some d,D z=>
   if plainKey d=X then
    (match(match x with| .ho=>D []| .map l=>(match H.get l with|some (.map es)=>D es|_=>Z)|_=>Z)with
    |some es=>
     (match nY d k es 0 with
     |some (D (_,v))=>D (if a then .tuple [v,.bool X]else v)
     |some Z=>D (if a then .tuple [z,.bool U]else z)
     |none=>Z)
    |none=>Z)
   else if oB P d k=X then
    (match(match x with| .ho=>D []| .map l=>(match H.get l with|some (.map es)=>D es|_=>Z)|_=>Z)with
    |some es=>
     (match mm P c k es 0 with
     |some (D (_,v))=>D (if a then .tuple [v,.bool X]else v)
     |some Z=>D (if a then .tuple [z,.bool U]else z)
     |none=>Z)
    |none=>Z)
   else Z
  |_,_=>Z)
 |_=>Z
def FE(R:Rel ρ H w){t:TypeId}{x k v:aa}{L A:Value}{ok:Bool}(h:rh P H t x k ok=D v)(K:bd ρ x L)(u:bd ρ k A):
  ∃r,(Instr.lookup t L A ok).run P w= .ok r w/\bd ρ v r:=by
 unfold rh at h;split at h
 ·rename_i V ab hu;split at h
  ·rename_i d z j S;split at h
   ·rename_i aG;split at h
    ·rename_i es a;obtain⟨s,G,F⟩:=ly S w;have M:∃ents:Array MapEntry,bq ρ (es.map (·.1)) (ents.toList.map (·.key))/\bq ρ (es.map (·.2)) (ents.toList.map (·.val))/\
       ∀cU:Option (Nat×Value),Instr.findNow d A ents.toList 0=D cU->(Instr.lookup t L A ok).run P w=
       .ok (match cU with|some (_,v)=>(if ok then .tuple #[v,.bool X]else v)|none=>(if ok then .tuple #[s,.bool U]else s)) w:=by
      split at a
      ·cases K;simp only[aU]at a;subst a;refine⟨#[],by simpa using bq.nil,by simpa using bq.nil,λcU q=> ?_⟩;unfold Instr.lookup;simp only[Sem.run_bind,run_underlying hu,Result.andThen_ok,Sem.run_pure];rw[rp j aG];simp only[Result.andThen_ok,Instr.findKey,Sem.run_bind,run_underlying j,q,Sem.run_pure];cases cU with
       |none=>simp[G]
       |some p=>obtain⟨i,v⟩:=p;simp
      ·cases K with|map l loc Q=>
       split at a
       ·rename_i es' N;simp only[aU]at a;subst a;obtain⟨ents,clock,T,O,c,e⟩:=pY (P:=P) R N Q;refine⟨ents,c,e,λcU q=> ?_⟩;unfold Instr.lookup;simp only[Sem.run_bind,run_underlying hu,Result.andThen_ok,Sem.run_pure,O];rw[rp j aG];simp only[Result.andThen_ok,Instr.findKey,Sem.run_bind,run_underlying j,q,Sem.run_pure];cases cU with
        |none=>simp[G]
        |some p=>obtain⟨i,v⟩:=p;simp
       ·cases a
      ·cases a
     obtain⟨ents,c,e,B⟩:=M;split at h
     ·rename_i i W o;simp only[aU]at h;subst h;obtain⟨cU,m,n,_⟩:=pF u es ents.toList 0 _ o c e;cases n with|some _ _ y E=>
      refine⟨_,B _ m,?_⟩;cases ok
      ·exact E
      ·exact .tuple _ [y,.bool X] (.cons _ _ _ _ E (.cons _ _ _ _ (.bool _) .nil))
     ·rename_i o;simp only[aU]at h;subst h;obtain⟨cU,m,n,_⟩:=pF u es ents.toList 0 _ o c e;cases n;refine⟨_,B _ m,?_⟩;cases ok
      ·exact F ρ
      ·exact .tuple _ [s,.bool U] (.cons _ _ _ _ (F ρ) (.cons _ _ _ _ (.bool _) .nil))
     ·cases h
    ·cases h
   ·split at h
    ·rename_i aG;split at h
     ·rename_i es a;obtain⟨s,G,F⟩:=ly S w;have M:∃ents:Array MapEntry,bq ρ (es.map (·.1)) (ents.toList.map (·.key))/\bq ρ (es.map (·.2)) (ents.toList.map (·.val))/\
        ∀cU:Option (Nat×Value),(Instr.findKey V A ents.toList).run P w= .ok cU w->(Instr.lookup t L A ok).run P w=
        .ok (match cU with|some (_,v)=>(if ok then .tuple #[v,.bool X]else v)|none=>(if ok then .tuple #[s,.bool U]else s)) w:=by
       split at a
       ·cases K;simp only[aU]at a;subst a;refine⟨#[],by simpa using bq.nil,by simpa using bq.nil,λcU q=> ?_⟩;unfold Instr.lookup;simp only[Sem.run_bind,run_underlying hu,Result.andThen_ok,Sem.run_pure];rw[tR j aG u];simp only[Result.andThen_ok,q];cases cU with
        |none=>simp[G]
        |some p=>obtain⟨i,v⟩:=p;simp
       ·cases K with|map l loc Q=>
        split at a
        ·rename_i es' N;simp only[aU]at a;subst a;obtain⟨ents,clock,T,O,c,e⟩:=pY (P:=P) R N Q;refine⟨ents,c,e,λcU q=> ?_⟩;unfold Instr.lookup;simp only[Sem.run_bind,run_underlying hu,Result.andThen_ok,Sem.run_pure,O];rw[tR j aG u];simp only[Result.andThen_ok,q];cases cU with
         |none=>simp[G]
         |some p=>obtain⟨i,v⟩:=p;simp
        ·cases a
       ·cases a
      obtain⟨ents,c,e,B⟩:=M;split at h
      ·rename_i i W o;simp only[aU]at h;subst h;obtain⟨cU,m,n⟩:=ub j aG u w o c e;cases n with|some _ _ y E=>
       refine⟨_,B _ m,?_⟩;cases ok
       ·exact E
       ·exact .tuple _ [y,.bool X] (.cons _ _ _ _ E (.cons _ _ _ _ (.bool _) .nil))
      ·rename_i o;simp only[aU]at h;subst h;obtain⟨cU,m,n⟩:=ub j aG u w o c e;cases n;refine⟨_,B _ m,?_⟩;cases ok
       ·exact F ρ
       ·exact .tuple _ [s,.bool U] (.cons _ _ _ _ (F ρ) (.cons _ _ _ _ (.bool _) .nil))
      ·cases h
     ·cases h
    ·cases h
  ·cases h
 ·cases h
def tB(H:ae):aa×ae:=(.map H.next,H.push (.map []))
def FF(d:Rel ρ H w)(e:ρ H.next=Z)(t:TypeId):∃r a c,(Instr.makeMap t Z).run P w= .ok r a/\bd c (tB H).1 r/\Step ρ H w c (tB H).2 a:=by
 have aB:=Co d e (.map []) rfl (.map #[] 0) ⟨w.heap.size,0,0,0⟩ rfl (λ_ _ _ h=>by cases h) (λes h=>by
  simp only[bO.map.injEq]at h;subst h;exact⟨#[],0,heap_alloc_new _ _,by simpa using bq.nil,by simpa using bq.nil⟩) (λ_ _ _ h=>by cases h)
 refine⟨.map (D w.heap.size),_,_,?_,.map H.next ⟨w.heap.size,0,0,0⟩ (Env.gN _ _ _),aB⟩;simp[Instr.makeMap]
def vQ(i:Rel ρ H w){l:Nat}{es es':List (aa×aa)}(j:H.get l=D (.map es)){loc:Loc}(p:ρ l=D loc){ents:Array MapEntry}{clock:Nat}
  (m:bq ρ (es'.map (·.1)) (ents.toList.map (·.key))) (n:bq ρ (es'.map (·.2)) (ents.toList.map (·.val))):
  Step ρ H w ρ (H.set l (.map es')) {w with heap:=w.heap.setIfInBounds loc.block (.map ents clock)}:=by
 have s:=ae.aS j;obtain⟨c,d,ag,af,M,_,_⟩:=i.map _ _ j;obtain rfl:loc=c:=Option.some.inj (p.symm.trans d);have N:=iY M;have q:∀k,k≠loc.block->({w with heap:=w.heap.setIfInBounds loc.block (.map ents clock)}:World).heap[k]? =w.heap[k]? :=λk O=>by
  show(w.heap.setIfInBounds loc.block _)[k]? =_;rw[Array.getElem?_setIfInBounds,if_neg (Ne.symm O)]
 have o:∀l' c,H.live l'->l'≠l->ρ l'=D c->c.block≠loc.block:=λl' c h ba e heq=>
  i.apart l l' loc c (.inr (.inl ⟨_,j⟩)) h (Ne.symm ba) p e heq.symm
 have x:∀l',(H.set l (.map es')).rw l'->H.rw l':=by
  intro l' h;by_cases a:l=l'
  ·subst a;exact .inr (.inl ⟨_,j⟩)
  ·simpa [ae.rw,ae.get_set_other a]using h
 have P:∀l',(H.set l (.map es')).live l'->H.live l':=by
  intro l' h;by_cases a:l=l'
  ·subst a;exact .inr (.inl ⟨_,j⟩)
  ·simpa [ae.live,ae.get_set_other a]using h
 refine⟨ρ.le_refl,bk _,λ_ _=>rfl,⟨?_,?_,?_,?_⟩,rfl,rfl,rfl,by simp,?_,?_,ae.CS rfl⟩
 ·intro l' ai G E h;by_cases a:l=l'
  ·subst a;rw[ae.get_set_same s]at h;cases h
  ·rw[ae.get_set_other a]at h;obtain⟨c,d,ab,c',y,K,u,v,ad⟩:=i.row _ _ _ _ h;exact⟨c,d,ab,c',y,K,by rw[q _ (o l' c (.inl ⟨_,_,_,h⟩) (Ne.symm a) d)];exact u,v,ad⟩
 ·intro l' ah h;by_cases a:l=l'
  ·subst a;rw[ae.get_set_same s]at h;simp only[aU,bO.map.injEq]at h;subst h;refine⟨loc,p,ents,clock,?_,m,n⟩;show(w.heap.setIfInBounds loc.block _)[loc.block]? =_;rw[Array.getElem?_setIfInBounds,if_pos rfl,if_pos N]
  ·rw[ae.get_set_other a]at h;obtain⟨c,d,F,z,u,v⟩:=i.map _ _ h;exact⟨c,d,F,z,by rw[q _ (o l' c (.inr (.inl ⟨_,h⟩)) (Ne.symm a) d)];exact u,v⟩
 ·intro l' y G E h;by_cases a:l=l'
  ·subst a;rw[ae.get_set_same s]at h;cases h
  ·rw[ae.get_set_other a]at h;obtain⟨c,d,R⟩:=i.bU _ _ _ _ h;exact⟨c,d,R.frame ρ.le_refl (q _ (o l' c (.inr (.inr ⟨_,_,_,h⟩)) (Ne.symm a) d))⟩
 ·intro S T V W m n o A B;exact i.apart S T V W (x _ m) (P _ n) o A B
 ·intro b _ Q;refine q b ?_;rintro rfl;exact Q ⟨l,loc,.inr (.inl ⟨_,j⟩),p,rfl⟩
 ·rintro b ⟨l',c,m,n,L⟩;exact .inl ⟨l',c,x _ m,n,L⟩
def nZ(P:Program)(H:ae)(t:TypeId)(m k v:aa):Option ae:=
 match P.underlying t,m with
 |some (.map a _),.map l=>
  (match P.underlying a,H.get l with
  |some d,D (.map es)=>
   if plainKey d=X then
    (match nY d k es 0 with
    |some (D (i,_))=>D (H.set l (.map (es.set i (k,v))))
    |some Z=>D (H.set l (.map (es++[(k,v)])))
    |none=>Z)
   else if oB P d k=X then
    (match mm P a k es 0 with
    |some Z=>D (H.set l (.map (es++[(k,v)])))
    |_=>Z)
   else Z
  |_,_=>Z)
 |_,_=>Z
def L2{d:TypeDesc}{a b:aa}{bZ cx:Value}(h:og d a b=D X)(c:bd ρ a bZ)(e:bd ρ b cx)(n:Nat):Instr.sameBits (n+1) cx bZ=true:=by
 unfold og at h;split at h
 ·cases c;cases e;split at h
  ·rename_i i;subst i;simp at h;subst h;simp[Instr.sameBits]
  ·cases h
 ·cases c;cases e;simp at h;subst h;simp[Instr.sameBits,vX]
 ·cases c;cases e;simp at h;subst h;simp[Instr.sameBits]
 ·cases h
def Il(es:List (aa×aa))(i:Nat)(k v:aa):(es.set i (k,v)).map (·.1)=(es.map (·.1)).set i k:=by simp[List.map_set]
def Im(es:List (aa×aa))(i:Nat)(k v:aa):(es.set i (k,v)).map (·.2)=(es.map (·.2)).set i v:=by simp[List.map_set]
def xa(x:Rel ρ H w){t:TypeId}{m k v:aa}{m' a c:Value}{H':ae}(h:nZ P H t m k v=D H')(hm:bd ρ m m')(o:bd ρ k a)(N:bd ρ v c):
  ∃S,(Instr.mapUpdate t m' a c).run P w= .ok () S/\Step ρ H w ρ H' S:=by
 unfold nZ at h;split at h
 ·rename_i ak ah l hu;cases hm with|map _ loc E=>
  split at h
  ·rename_i d es F A;split at h
   ·rename_i aG;obtain⟨ents,clock,L,M,n,q⟩:=pY (P:=P) x A E;have K:∀ai:Obj,(setObj loc.block ai).run P w= .ok () {w with heap:=w.heap.setIfInBounds loc.block ai}:=λai=>by simp[setObj,Sem.run,L]
    have Q:∀cU,Instr.findNow d a ents.toList 0=D cU->(Instr.mapUpdate t (.map (D loc.block)) a c).run P w=
      (match cU with
       |some (i,_)=>(do
        let key<-Instr.keyThatStays (((ents[i]?).map (·.key)).getD a) a
        setObj loc.block (.map (ents.modify i λe=>{e with key,val:=c}) clock):Sem Unit).run P w
       |none=>(setObj loc.block (.map (ents.push {key:=a,val:=c,born:=clock}) (clock+1))).run P w):=by
     intro cU ad;unfold Instr.mapUpdate;simp only[Sem.run_bind,run_underlying hu,Result.andThen_ok,M];rw[rp F aG];simp only[Result.andThen_ok,Instr.findKey,Sem.run_bind,run_underlying F,ad,Sem.run_pure];cases cU with
     |none=>rfl
     |some p=>obtain⟨i,v⟩:=p;simp only[Sem.run_bind]
    split at h
    ·rename_i i v0 z;simp only[aU]at h;subst h;obtain⟨cU,s,u,O⟩:=pF o es ents.toList 0 _ z n q;cases u with|some _ _ y aj=>
     obtain⟨_,T,e,he,aB⟩:=O i v0 rfl;simp only[Nat.sub_zero,Nat.zero_add]at he T;have hlen:=n.length;simp only[List.length_map,Array.length_toList]at hlen;have G:i<ents.size:=af;obtain⟨R,V,ab⟩:=n.get i e.1 (by simp[he]);have W:ents[i].key=R:=by simpa [G]using V
     have ag:(Instr.keyThatStays (((ents[i]?).map (·.key)).getD a) a).run P w= .ok a w:=by
      unfold Instr.keyThatStays;have:((ents[i]?).map (·.key)).getD a=R:=by simp[G,W]
      rw[this,if_pos (L2 aB o ab 9999)];rfl
     refine⟨_,?_,vQ x A E (es':=es.set i (k,v)) (ents:=ents.modify i λe=>{e with key:=a,val:=c}) (clock:=clock) ?_ ?_⟩
     ·rw[Q _ s];simp only[Sem.run_bind,ag,Result.andThen_ok];exact K _
     ·rw[Il];have:(ents.modify i λe=>{e with key:=a,val:=c}).toList.map (·.key)=(ents.toList.map (·.key)).set i a:=by
       apply List.ext_getElem?;intro j;by_cases B:i=j
       ·subst B;simp[G]
       ·simp[B]
      rw[this];exact n.set o i
     ·rw[Im];have:(ents.modify i λe=>{e with key:=a,val:=c}).toList.map (·.val)=(ents.toList.map (·.val)).set i c:=by
       apply List.ext_getElem?;intro j;by_cases B:i=j
       ·subst B;simp[G]
       ·simp[B]
      rw[this];exact q.set N i
    ·rename_i z;simp only[aU]at h;subst h;obtain⟨cU,s,u,O⟩:=pF o es ents.toList 0 _ z n q;cases u;refine⟨_,?_,vQ x A E (es':=es++[(k,v)]) (ents:=ents.push {key:=a,val:=c,born:=clock}) (clock:=clock+1) ?_ ?_⟩
     ·rw[Q _ s];exact K _
     ·simpa using n.append (.cons _ _ _ _ o .nil)
     ·simpa using q.append (.cons _ _ _ _ N .nil)
    ·cases h
   ·split at h
    ·rename_i aG;obtain⟨ents,clock,L,M,n,q⟩:=pY (P:=P) x A E;have K:∀ai:Obj,(setObj loc.block ai).run P w= .ok () {w with heap:=w.heap.setIfInBounds loc.block ai}:=λai=>by simp[setObj,Sem.run,L]
     split at h
     ·rename_i z;simp only[aU]at h;subst h;obtain⟨cU,s,u⟩:=ub F aG o w z n q;cases u;refine⟨_,?_,vQ x A E (es':=es++[(k,v)]) (ents:=ents.push {key:=a,val:=c,born:=clock}) (clock:=clock+1) ?_ ?_⟩
      ·unfold Instr.mapUpdate;simp only[Sem.run_bind,run_underlying hu,Result.andThen_ok,M];rw[tR F aG o];simp only[Result.andThen_ok,s];exact K _
      ·simpa using n.append (.cons _ _ _ _ o .nil)
      ·simpa using q.append (.cons _ _ _ _ N .nil)
     ·cases h
    ·cases h
  ·cases h
 ·cases h
