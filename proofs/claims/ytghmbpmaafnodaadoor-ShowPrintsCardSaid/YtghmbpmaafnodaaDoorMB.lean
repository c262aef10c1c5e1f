/-
  Texts of one proof, laid together: Hv7 Hv8 Hv9 Hv10.
-/
import Derived.Test.YtghmbpmaafnodaaDoorMA
import Derived.Deep.AppendSrc
set_option linter.unusedVariables false
set_option linter.unusedSimpArgs false
set_option linter.defProp false
open Option renaming some→D,none→Z
open Bool renaming true→X,false→U
namespace Go.cn
section
variable {P:Program}{ρ:Env}{H:ae}{w:World}
def cN(P:Program)(t:TypeId)(x:ad)(f:Nat):Option ad:=
 match P.underlying t,x with
 |some (.struct a),.agg cs=>(match a[f]? with|some d=>apart P d.type cs d.offset|none=>Z)
 |_,_=>Z
def HT{t:TypeId}{x v:ad}{a:Value}{f:Nat}(h:cN P t x f=D v)(k:bj ρ x a)(w:World):∃r,(Instr.field t a f).run P w= .ok r w/\bj ρ v r:=by
 unfold cN at h;split at h
 ·rename_i l cs hu;cases k with|agg _ xs i=>
  split at h
  ·rename_i d j;obtain⟨r,c,e⟩:=mJ h i w;exact⟨r,by simp[Instr.field,run_underlying hu,j,asAgg,c],e⟩
  ·cases h
 ·cases h
def aH(P:Program)(t:TypeId)(x:ad)(f:Nat):Option ad:=
 match P.underlying t,x with
 |some (.struct a),.ptr l i c=>(match a[f]? with|some d=>(match cA P d.type with|some n=>if n=0 then Z else D (.ptr l i (c+d.offset))|none=>Z)|none=>Z)
 |_,_=>Z
def HS{t:TypeId}{x v:ad}{a:Value}{f:Nat}(h:aH P t x f=D v)(o:bj ρ x a)(w:World):∃r,(Instr.fieldAt t a f).run P w= .ok r w/\bj ρ v r:=by
 unfold aH at h;split at h
 ·rename_i p l i c hu;cases o with|ptr _ _ _ loc k=>
  split at h
  ·rename_i d j;split at h
   ·rename_i n m;split at h
    ·cases h
    ·rename_i e;simp only[aS]at h;subst h;refine⟨_,?_,.ptr l i (c+d.offset) loc k⟩;simp[Instr.fieldAt,run_underlying hu,j,Instr.sureAddr,fieldPlace,run_sizeOf m,e,kR,Nat.add_assoc]
   ·cases h
  ·cases h
 ·cases h
def cl(P:Program)(t:TypeId)(x d:ad):Option ad:=
 match P.underlying t,x,d with
 |some (.slice e),.aD l i n esz _,.int _ k=>(match cA P e with|some a=>if a=esz/\0<=k/\k<n then D (.ptr l (i+k.toNat) 0)else Z|none=>Z)
 |some (.array len e),.ptr l i c,.int _ k=>(match cA P e with|some a=>if 0<=k/\k<len then D (.ptr l i (c+k.toNat*a))else Z|none=>Z)
 |_,_,_=>Z
def H4{t:TypeId}{x u v:ad}{A y:Value}(h:cl P t x u=D v)(s:bj ρ x A)(q:bj ρ u y)(w:World):∃r,(Instr.indexAt t A y).run P w= .ok r w/\bj ρ v r:=by
 unfold cl at h;split at h
 ·rename_i e l i n esz cap E k hu;cases q;cases s with|aD _ _ _ _ loc a c o H G B=>
  split at h
  ·rename_i z p;split at h
   ·rename_i m;obtain⟨rfl,d,j⟩:=m;simp only[aS]at h;subst h;obtain⟨rfl,_⟩:=B af;refine⟨_,?_,.ptr l (i+k.toNat) 0 loc o⟩;have F:loc.off+i*loc.esz+k.toNat*loc.esz=loc.off+(i+k.toNat)*loc.esz+0:=by rw[Nat.add_mul];omega
    simp[Instr.indexAt,asIntOf,run_underlying hu,d,j,run_sizeOf p,kR]
   ·cases h
  ·cases h
 ·rename_i len e l i c E k hu;cases q;cases s with|ptr _ _ _ loc o=>
  split at h
  ·rename_i z p;split at h
   ·rename_i m;obtain⟨d,j⟩:=m;simp only[aS]at h;subst h;refine⟨_,?_,.ptr l i (c+k.toNat*z) loc o⟩;simp[Instr.indexAt,asIntOf,run_underlying hu,Instr.sureAddr,d,j,run_sizeOf p,kR,Nat.add_assoc]
   ·cases h
  ·cases h
 ·cases h
def eT(P:Program)(t:TypeId)(x a:ad):Option ad:=
 match P.underlying t,x,a with
 |some .string,.str s,.int _ k=>if 0<=k then(match s[k.toNat]? with|some b=>D (.int .u8 b.toNat)|none=>Z)else Z
 |some (.array len e),.agg cs,.int _ k=>(match cA P e with|some c=>if 0<=k/\k<len then apart P e cs (k.toNat*c)else Z|none=>Z)
 |_,_,_=>Z
def I4(s:List UInt8)(k:Nat):(⟨s.toArray⟩:ByteArray)[k]? =s[k]? :=by
 simp only[getElem?,decidableGetElem?];by_cases h:k<s.length
 ·have a1:k<(⟨s.toArray⟩:ByteArray).size:=by show k<s.toArray.size;simpa using h
  simp[h,a1];rfl
 ·have a1:¬k<(⟨s.toArray⟩:ByteArray).size:=by show¬k<s.toArray.size;simpa using h
  simp[h,a1]
def H5{t:TypeId}{x d v:ad}{j i:Value}(h:eT P t x d=D v)(c:bj ρ x j)(a:bj ρ d i)(w:World):∃r,(Instr.index t j i).run P w= .ok r w/\bj ρ v r:=by
 unfold eT at h;split at h
 ·rename_i s y k hu;cases a;cases c;split at h
  ·rename_i l;split at h
   ·rename_i b o;simp only[aS]at h;subst h;refine⟨_,?_,.int _ _⟩;simp only[Instr.index,asIntOf,Sem.run_bind,Sem.run_pure,Result.andThen_ok,run_underlying hu,if_pos l,I4,o]
   ·cases h
  ·cases h
 ·rename_i len e cs y k hu;cases a;cases c with|agg _ xs p=>
  split at h
  ·rename_i z u;split at h
   ·rename_i q;obtain⟨r,m,n⟩:=mJ h p w;exact⟨r,by simp[Instr.index,asIntOf,run_underlying hu,q,run_sizeOf u,m],n⟩
   ·cases h
  ·cases h
 ·cases h
def eS(x:Option ad)(a y:Nat):Option Nat:=
 match x with
 |none=>D a
 |some (.int _ k)=>if 0<=k/\k<=y then D k.toNat else Z
 |some _=>Z
def kd(P:Program)(t:TypeId)(x:ad)(lo a c:Option ad):Option ad:=
 match P.underlying t,x with
 |some .string,.str s=>
  (match c,eS a s.length s.length with
  |none,D h=>(match eS lo 0 h with|some l=>D (.str ((s.drop l).take (h-l)))|none=>Z)
  |_,_=>Z)
 |some (.slice e),.aD l i n esz cap=>
  (match cA P e,c with
  |some d,Z=>
   if d=esz then
    (match eS a n (cap.getD n)with
    |some h=>(match eS lo 0 h with|some k=>D (.aD l (i+k) (h-k) esz (cap.map (· -k)))|none=>Z)
    |none=>Z)
   else Z
  |some d,D m=>
   if d=esz then
    (match eS (D m) 0 (cap.getD n)with
    |some m=>(match a,eS a 0 m with
     |some _,D h=>(match eS lo 0 h with|some k=>D (.aD l (i+k) (h-k) esz (D (m-k)))|none=>Z)
     |_,_=>Z)
    |none=>Z)
   else Z
  |_,_=>Z)
 |some (.slice e),.az=>
  (match cA P e,c with
  |some _,Z=>(match eS a 0 0 with
   |some h=>(match eS lo 0 h with|some _=>D .az|none=>Z)
   |none=>Z)
  |_,_=>Z)
 |_,_=>Z
inductive pw(ρ:Env):Option ad->Option Value->Prop where
 |none:pw ρ none none
 |some (v:ad) (x:Value) (h:bj ρ v x):pw ρ (some v) (some x)
def hx{v:ad}{x:Value}{d y k:Nat}(h:eS (D v) d y=D k)(e:bj ρ v x)(code:BoundsCode){c:Nat}(j:y<=c)(w:World):
  (Instr.sliceBound x c code).run P w= .ok k w/\k<=y:=by
 unfold eS at h;split at h
 ·rename_i a;cases a
 ·rename_i l n a;cases a;cases e;split at h
  ·rename_i i;simp only[aS]at h;subst h;refine⟨?_,af⟩;simp only[Instr.sliceBound,asIntOf,Sem.run_bind,Sem.run_pure,Result.andThen_ok];rw[if_pos af];exact Sem.run_pure ..
  ·cases h
 ·cases h
def Js(s:List UInt8)(l h:Nat):(⟨s.toArray⟩:ByteArray).extract l h=⟨((s.drop l).take (h-l)).toArray⟩:=by
 apply ByteArray.ext;simp[ByteArray.data_extract,List.extract_eq_take_drop]
def IF{t:TypeId}{x v:ad}{ab:Value}{lo S T:Option ad}{E G K:Option Value}(h:kd P t x lo S T=D v)(O:bj ρ x ab)(u:pw ρ lo E)(B:pw ρ S G)(H:pw ρ T K)(w:World):
  ∃r,(Instr.sliceAt t ab E G K).run P w= .ok r w/\bj ρ v r:=by
 unfold kd at h;split at h
 ·rename_i s hu;cases O;have A:(⟨s.toArray⟩:ByteArray).size=s.length:=by show s.toArray.size=_;simp
  split at h
  ·rename_i p o;cases H;split at h
   ·rename_i l z;simp only[aS]at h;subst h;refine⟨_,?_,.str _⟩;have y:∃m,(Instr.sliceBounds U s.length s.length E G Z).run P w= .ok (l,p,m) w:=by
     refine⟨s.length,?_⟩;cases B with
     |none=>
      simp only[eS,aS]at o;subst o;cases u with
      |none=>simp only[eS,aS]at z;subst z;simp[Instr.sliceBounds]
      |some v x d=>simp[Instr.sliceBounds,(hx z d _ (bm _) w).1]
     |some v x d=>
      have:=(hx (P:=P) o d .sliceAlen (bm _) w).1;cases u with
      |none=>simp only[eS,aS]at z;subst z;simp[Instr.sliceBounds,this]
      |some v x d=>simp[Instr.sliceBounds,this,(hx z d _ (bm _) w).1]
    obtain⟨m,y⟩:=y;simp[Instr.sliceAt,Instr.slice,run_underlying hu,A,y,Js]
   ·cases h
  ·cases h
 ·rename_i e l i n esz cap hu;cases O with|aD _ _ _ _ loc a c z aj R Q=>
  have L:cap.getD n<=c:=by
   cases F:cap with
   |none=>exact aj
   |some k=>have:=R k F;simp;omega
  split at h
  ·rename_i aa A;cases H;split at h
   ·rename_i N;subst N;split at h
    ·rename_i p o;split at h
     ·rename_i k j;simp only[aS]at h;subst h;have an:p<=c:=by
       cases B with
       |none=>simp only[eS,aS]at o;omega
       |some v x d=>have:=(hx (P:=P) o d .sliceAcap L w).2;omega
      have ah:k<=p:=by
       cases u with
       |none=>simp only[eS,aS]at j;omega
       |some v x d=>exact(hx (P:=P) j d .sliceB (bm _) w).2
      have y:(Instr.sliceBounds X n c E G Z).run P w= .ok (k,p,c) w:=by
       cases B with
       |none=>
        simp only[eS,aS]at o;subst o;cases u with
        |none=>simp only[eS,aS]at j;subst j;simp[Instr.sliceBounds]
        |some v x d=>simp[Instr.sliceBounds,(hx j d _ (bm _) w).1]
       |some v x d=>
        have:=(hx (P:=P) o d .sliceAcap L w).1;cases u with
        |none=>simp only[eS,aS]at j;subst j;simp[Instr.sliceBounds,this]
        |some v x d=>simp[Instr.sliceBounds,this,(hx j d _ (bm _) w).1]
      refine⟨.slice (D (if c=k then a else a.add (k*loc.esz))) (p-k) (c-k),?_,?_⟩
      ·simp[Instr.sliceAt,Instr.slice,run_underlying hu,y,run_sizeOf A];split<;>rfl
      ·refine .aD l (i+k) (p-k) _ loc _ (c-k) z af (λm hm=> ?_) (λak=> ?_)
       ·cases F:cap with
        |none=>rw[F]at hm;cases hm
        |some q=>rw[F]at hm;simp at hm;have:=R q F;omega
       ·obtain⟨rfl,M⟩:=Q af;rw[if_neg af,kR];refine⟨?_,?_⟩
        ·congr 1;rw[Nat.add_mul];omega
        ·rw[show i+k+(c-k)=i+c by omega];exact M
     ·cases h
    ·cases h
   ·cases h
  ·rename_i aa m0 A;cases H with|some _ K ai=>
   split at h
   ·rename_i N;subst N;split at h
    ·rename_i m hm;obtain⟨W,ap⟩:=hx (P:=P) hm ai .slice3Acap L w;split at h
     ·rename_i d p o;cases B with|some _ x am=>
      obtain⟨V,ao⟩:=hx (P:=P) o am .slice3B (bm _) w;split at h
      ·rename_i k j;simp only[aS]at h;subst h;have ah:k<=p:=by
        cases u with
        |none=>simp only[eS,aS]at j;omega
        |some v x d=>exact(hx (P:=P) j d .sliceB (bm _) w).2
       have y:(Instr.sliceBounds X n c E (D x) (D K)).run P w= .ok (k,p,m) w:=by
        cases u with
        |none=>simp only[eS,aS]at j;subst j;simp[Instr.sliceBounds,W,V]
        |some v x d=>simp[Instr.sliceBounds,W,V,(hx j d _ (bm _) w).1]
       refine⟨.slice (D (if m=k then a else a.add (k*loc.esz))) (p-k) (m-k),?_,?_⟩
       ·simp[Instr.sliceAt,Instr.slice,run_underlying hu,y,run_sizeOf A];split<;>rfl
       ·refine .aD l (i+k) (p-k) _ loc _ (m-k) z af (λq al=>by simpa using al) (λak=> ?_);obtain⟨rfl,M⟩:=Q af;rw[if_neg af,kR];refine⟨?_,?_⟩
        ·congr 1;rw[Nat.add_mul];omega
        ·refine Nat.le_trans (Nat.add_le_add_left (Nat.mul_le_mul_right _ ?_) _) M;omega
      ·cases h
     ·cases h
    ·cases h
   ·cases h
  ·cases h
 ·rename_i e hu;cases O;split at h
  ·rename_i aa A;cases H;split at h
   ·rename_i p o;split at h
    ·rename_i k j;simp only[aS]at h;subst h;have ae:p=0:=by
      cases B with
      |none=>simp only[eS,aS]at o;omega
      |some v x d=>have:=(hx (P:=P) o d .sliceAcap (bm _) w).2;omega
     subst ae;have ag:k=0:=by
      cases u with
      |none=>simp only[eS,aS]at j;omega
      |some v x d=>have:=(hx (P:=P) j d .sliceB (bm _) w).2;omega
     subst ag;refine⟨.slice Z 0 0,?_,.az⟩;have y:(Instr.sliceBounds X 0 0 E G Z).run P w= .ok (0,0,0) w:=by
      cases B with
      |none=>
       cases u with
       |none=>simp[Instr.sliceBounds]
       |some v x d=>simp[Instr.sliceBounds,(hx j d _ (bm _) w).1]
      |some v x d=>
       have:=(hx (P:=P) o d .sliceAcap (bm _) w).1;cases u with
       |none=>simp[Instr.sliceBounds,this]
       |some v x d=>simp[Instr.sliceBounds,this,(hx j d _ (bm _) w).1]
     simp[Instr.sliceAt,Instr.slice,run_underlying hu,y,run_sizeOf A]
    ·cases h
   ·cases h
  ·cases h
 ·cases h
end
section
variable {P:Program}{ρ:Env}{H:ae}{w:World}
def z7(c:Array Value):∀(d:List ad) (o:Nat),(∀(j:Nat) (v:ad),d[j]? =D v->v.one=X/\∃x,c[o+j]? =D x/\bj ρ v x)->
  ∃xs:List Value,bB ρ d xs/\(∀j u,xs[j]? =D u->c[o+j]? =D u)/\∀u∈xs,u.oneCell'=X
 |[],_,_=>⟨[],.nil,λj u h=>by simp at h,λu h=>by cases h⟩
 |v::d,o,h=>by
  obtain⟨m,x,n,e⟩:=h 0 v rfl;obtain⟨xs,i,k,l⟩:=z7 c d (o+1) (λj u a=>by have:=h (j+1) u (by simpa using a);rwa[show o+(j+1)=o+1+j by omega]at this);refine⟨x::xs,.cons _ _ _ _ e i,?_,?_⟩
  ·intro j u a;cases j with
   |zero=>simp at a;subst a;exact n
   |succ j=>rw[show o+(j+1)=o+1+j by omega];exact k j u (by simpa using a)
  ·intro u hu;rcases List.mem_cons.1 hu with rfl|hu
   ·exact e.xo m
   ·exact l u hu
def Fc(c:Array Value)(esz:Nat):∀(els:List (List ad)) (o:Nat),(∀(i:Nat) (e:List ad),els[i]? =D e->e.length=esz/\∀(j:Nat) (v:ad),e[j]? =D v->v.one=X/\∃x,c[o+i*esz+j]? =D x/\bj ρ v x)->
  ∃xs:List Value,bB ρ els.flatten xs/\(∀j u,xs[j]? =D u->c[o+j]? =D u)/\∀u∈xs,u.oneCell'=X
 |[],_,_=>⟨[],by simpa using bB.nil,λj u h=>by simp at h,λu h=>by cases h⟩
 |d::els,o,h=>by
  obtain⟨s,p⟩:=h 0 d rfl;obtain⟨k,aQ,a2,a3⟩:=z7 c d o (λj v a=>by simpa using p j v a);obtain⟨xs,l,m,n⟩:=Fc c esz els (o+esz) (λi e he=>by
   have:=h (i+1) e (by simpa using he);rw[Nat.succ_mul]at this;refine⟨this.1,λj v a=> ?_⟩;have:=this.2 j v a;rwa[show o+(i*esz+esz)+j=o+esz+i*esz+j by omega]at this)
  have w:=aQ.length;refine⟨k++xs,by simpa using aQ.append l,?_,?_⟩
  ·intro j u a;by_cases q:j<k.length
   ·rw[List.getElem?_append_left q]at a;exact a2 j u a
   ·rw[List.getElem?_append_right af]at a;have:=m _ u a;rwa[show o+esz+(j-k.length)=o+j by omega]at this
  ·intro u hu;rcases List.mem_append.1 hu with hu|hu
   ·exact a3 u hu
   ·exact n u hu
def eJ(H:ae)(l i n esz:Nat):Option (List (List ad)):=
 match H.get l with
 |some (.row _ a els)=>if a=esz/\i+n<=els.length then D ((els.drop i).take n)else Z
 |some (.b0 _ a els)=>if a=esz/\i+n<=els.length then D ((els.drop i).take n)else Z
 |_=>Z
def tW{els:List (List ad)}{i n k:Nat}{e:List ad}(h:((els.drop i).take n)[k]? =D e):els[i+k]? =D e:=by
 rw[List.getElem?_take]at h;split at h
 ·rw[List.getElem?_drop]at h;exact h
 ·cases h
def yY{ro:Bool}{i n:Nat}{loc:Loc}{p:Nat}{els a:List (List ad)}(B:fy ρ w loc ro p els)(h:(if p=loc.esz/\i+n<=els.length then D ((els.drop i).take n)else Z)=D a):
  a.length=n/\(∀e∈a,e.length=loc.esz)/\(∀e∈a,∀v∈e,v.one=X)/\
  ∃xs:List Value,bB ρ a.flatten xs/\xs.length=n*loc.esz/\(∀j u,xs[j]? =D u->w.cell? ⟨loc.block,loc.off+i*loc.esz+j,Z⟩=D u)/\∀u∈xs,u.oneCell'=true:=by
 ·split at h
  ·rename_i A;obtain⟨rfl,hle⟩:=A;simp only[aS]at h;subst h;obtain⟨_,c,t,F,z,_,m⟩:=B;have hlen:((els.drop i).take n).length=n:=by simp;omega
   have q:∀e∈(els.drop i).take n,e.length=loc.esz:=λe he=>by
    obtain⟨k,l⟩:=List.getElem?_of_mem he;exact(m _ e (tW l)).1
   have y:∀e∈(els.drop i).take n,∀v∈e,v.one=true:=λe he v E=>by
    obtain⟨k,l⟩:=List.getElem?_of_mem he;obtain⟨j,d⟩:=List.getElem?_of_mem E;exact((m _ e (tW l)).2 j v d).1
   refine⟨hlen,q,y,?_⟩;obtain⟨xs,o,s,x⟩:=Fc (ρ:=ρ) c loc.esz ((els.drop i).take n) (loc.off+i*loc.esz) (λk e l=>by
    have:=m _ e (tW l);refine⟨this.1,λj v d=> ?_⟩;have:=this.2 j v d;rwa[Nat.add_mul,<-Nat.add_assoc]at this)
   refine⟨xs,o,by rw[<-o.length,mQ q,hlen],λj u d=> ?_,x⟩;simp[World.cell?,z,s j u d]
  ·cases h
def vE(o:Rel ρ H w){l i n:Nat}{loc:Loc}{a:List (List ad)}(h:eJ H l i n loc.esz=D a)(p:ρ l=D loc):
  a.length=n/\(∀e∈a,e.length=loc.esz)/\(∀e∈a,∀v∈e,v.one=X)/\
  ∃xs:List Value,bB ρ a.flatten xs/\xs.length=n*loc.esz/\(∀j u,xs[j]? =D u->w.cell? ⟨loc.block,loc.off+i*loc.esz+j,Z⟩=D u)/\∀u∈xs,u.oneCell'=true:=by
 unfold eJ at h;split at h
 ·rename_i ro q els c;obtain⟨m,d,k⟩:=o.row _ _ _ _ c;obtain rfl:loc=m:=Option.some.inj (p.symm.trans d);exact yY k h
 ·rename_i t q els c;obtain⟨m,d,k,_⟩:=o.b0 _ _ _ _ c;obtain rfl:loc=m:=Option.some.inj (p.symm.trans d);exact yY k h
 ·cases h
def ie(P:Program)(H:ae)(eD:TypeId)(esz:Nat)(x:ad):Option (List (List ad)):=
 match P.underlying eD,x with
 |some (.slice _),.aD l i n a _=>if a=esz then eJ H l i n esz else Z
 |some (.slice _),.az=>D []
 |some .string,.str s=>if esz=1 then D (s.map λb=>[.int .u8 b.toNat])else Z
 |_,_=>Z
def I3(s:List UInt8):bB ρ ((s.map λb=>[ad.int .u8 b.toNat]).flatten) (byteCells ⟨s.toArray⟩):=by
 unfold byteCells;show bB ρ _ (s.map _)
 induction s with
 |nil=>exact .nil
 |cons b s a=>exact .cons _ _ _ _ (.int _ _) a
def Im(G:Rel ρ H w){eD:TypeId}{esz:Nat}{x:ad}{q:Value}{d:List (List ad)}(h:ie P H eD esz x=D d)(m:bj ρ x q):
  (∀e∈d,e.length=esz)/\(∀e∈d,∀v∈e,v.one=X)/\∃news:List Value,bB ρ d.flatten news/\Src P esz eD q d.length news w:=by
 unfold ie at h;split at h
 ·rename_i e l i n O cap hu;split at h
  ·rename_i he;subst he;cases m with|aD _ _ _ _ loc a c L R Q K=>
   obtain⟨y,z,A,xs,B,k,E,F⟩:=vE G h L;refine⟨z,A,xs,B,?_⟩;rw[y];refine Src.ofSlice w hu a n c xs k (λj u p=> ?_) F;have N:0<c:=by
    rcases Nat.eq_zero_or_pos c with o|o
    ·have M:n=0:=af;rw[M]at k;have:xs=[]:=List.eq_nil_of_length_eq_zero (by simpa using k);subst this;simp at p
    ·exact o
   obtain⟨rfl,_⟩:=K N;rw[kR];exact E j u p
  ·cases h
 ·rename_i e hu;cases m;simp only[aS]at h;subst h;exact⟨by simp,by simp,[],by simpa using bB.nil,Src.ofNil w hu 0⟩
 ·rename_i s hu;split at h
  ·rename_i he;subst he;cases m;simp only[aS]at h;subst h;refine⟨by simp,by simp[ad.one],_,I3 s,?_⟩;have:=Src.ofString w hu (⟨s.toArray⟩:ByteArray);have aB:(⟨s.toArray⟩:ByteArray).size=s.length:=by show s.toArray.size=_;simp
   rw[aB]at this;simpa using this
  ·cases h
 ·cases h
def hO(P:Program)(t:TypeId):Option Nat:=(P.info? t).map (·.bytes)
def jF(x:ad)(e:TypeId):Option TypeId:=match x with
 | .str _=>D e
 |_=>Z
def Iu{x:ad}{e:TypeId}:∀a,jF x e=D a->a=e:=by
 intro a h;unfold jF at h;split at h
 ·exact(Option.some.inj h).symm
 ·cases h
def hU(P:Program)(t:TypeId):Bool:=match P.underlying t with
 |some (.int .i64)=>X
 |_=>U
def Kn{P:Program}{t:TypeId}(h:hU P t=X):P.underlying t=D (.int .i64):=by
 unfold hU at h;split at h
 ·assumption
 ·cases h
def vN(P:Program)(H:ae)(e:TypeId)(s x:ad):Option (ad×ae):=
 match s,x with
 | .az,.int .i64 (.ofNat n)=>(match cA P e,hO P e,eU P e with
  |some esz,D gD,D z=>
   if 0<n/\z.cells.length=esz/\0<esz/\z.cells.all ad.one=X/\n*gD<=140737488355328/\n<=1125899906842624 then D (.aD H.next 0 n esz Z,H.push (.row U esz (List.replicate n z.cells)))else Z
  |_,_,_=>Z)
 |_,_=>Z
def c0(P:Program)(H:ae)(ts:List TypeId)(s x:ad):Option (ad×ae):=
 match ts with
 |[t,eD]=>
  (match P.underlying t with
  |some (.slice e)=>
   if hU P eD=X then vN P H e s x else
   (match cA P e,hO P e,eU P e with
   |some esz,D gD,D z=>
    (match ie P H eD esz x with
    |some a=>
     if z.cells.length=esz/\0<esz then
      (match s with
      | .az=>if a.length=0 then D (.az,H)else
       if a.length*gD<=140737488355328/\a.length<=9223372036854775807 then D (.aD H.next 0 a.length esz Z,H.push (dK (jF x e) esz a))else Z
      | .aD l i n c cap=>
       if c=esz then
        if a.length=0 then D (s,H)
        else if(n+a.length)*gD<=140737488355328/\n+a.length<=9223372036854775807 then
         (match eJ H l i n esz with
         |some os=>
          if cap.any (· <n+a.length)=X then D (.aD H.next 0 (n+a.length) esz Z,H.push (.row U esz (os++a)))
          else if cap=Z then
           (match H.get l with
           |some (.row U _ _)=>D (.aD H.next 0 (n+a.length) esz Z,(H.set l .dead).push (.row U esz (os++a)))
           |some (.b0 t0 _ _)=>if t0=e/\i=0 then D (.aD H.next 0 (n+a.length) esz Z,(H.set l .dead).push (.b0 t0 esz (os++a)))else Z
           |_=>Z)
          else Z
         |none=>Z)
        else Z
       else Z
      |_=>Z)
     else Z
    |none=>Z)
   |_,_,_=>Z)
  |_=>Z)
 |_=>Z
def Fl(w:World)(t eD ty e:TypeId)(j:P.underlying t=D (.slice e)){esz:Nat}(i:cA P e=D esz)(base:Option Addr)(n c:Nat)(h:n<=c)(x:Value)(aB:Src P esz eD x 0 [] w):
  (Builtin.append_ #[t,eD] ty #[.slice base n c,x]).run P w= .ok (.slice base n c) w:=by
 have d:=aB.cells;rcases aB.kind with⟨k,a⟩|a<;>cases base<;>
  simp[Builtin.append_,run_underlying j,run_underlying a,run_sizeOf i,aB.len,h,d,storeCells]
def wG(A:Rel ρ H w)(F:ρ H.next=Z){ot:Option TypeId}{t eD e:TypeId}(M:∀s,ot=D s->s=e)(ty:TypeId)(O:P.underlying t=D (.slice e)){esz gD:Nat}{z:ad}(l:cA P e=D esz)(j:hO P e=D gD)(m:eU P e=D z)
  (R:z.cells.length=esz) (ae:0<esz)
  {a os:List (List ad)} (d1:∀e∈a,e.length=esz) (d2:∀e∈a,∀v∈e,v.one=X) {news:List Value} (d3:bB ρ a.flatten news) {o:Value} (aB:Src P esz eD o a.length news w)
  (bz:∀e∈os,e.length=esz) (bH:∀e∈os,∀v∈e,v.one=X) {olds:List Value} (bZ:bB ρ os.flatten olds) (base:Option Addr) (n c:Nat) (L:os.length=n)
  (hold:(Builtin.firstCells esz n (.slice base n c)).run P w.drew= .ok olds.toArray w.drew) (p:c<n+a.length) (E:(n+a.length)*gD<=140737488355328) (ab:n+a.length<=9223372036854775807):
  ∃r u x,(Builtin.append_ #[t,eD] ty #[.slice base n c,o]).run P w= .ok r u/\bj x (.aD H.next 0 (n+a.length) esz Z) r/\Step ρ H w x (H.push (dK ot esz (os++a))) u:=by
 unfold eU at m;unfold cA at l;unfold hO at j;simp only[c1]at m;obtain⟨i,q,h,T,V⟩:=m;rw[q]at l j;simp only[Option.map_some,aS]at l j;subst l;subst j;have Q:=(tO V ρ).cells;have S:h.cells.size=i.size:=by have:=Q.length;rw[R]at this;simpa using this.symm
 have N:=run_append_grow_src (P:=P) w t eD ty e i h O q T base n c olds hold o a.length news aB p af (growslice_fits p E);have B:Rel ρ H w.drew:=A.drew;have d:=sc (w:=w.drew) B F (ot:=ot) (esz:=i.size) (els:=os++a) (λe he=>(List.mem_append.1 he).elim (bz e) (d1 e)) (λe he=>(List.mem_append.1 he).elim (bH e) (d2 e))
  (xs:=olds++news) (tail:=(Builtin.zeroCells h.cells (grownCap w (n+a.length) c e-(n+a.length))).toList) (by simpa using bZ.append d3) e M
 have y:((olds++news)++(Builtin.zeroCells h.cells (grownCap w (n+a.length) c e-(n+a.length))).toList).toArray=(olds++news).toArray++Builtin.zeroCells h.cells (grownCap w (n+a.length) c e-(n+a.length)):=by
  apply Array.ext';simp
 rw[y]at d;refine⟨_,_,_,N,?_,⟨d.le,d.next,d.aW,d.rel,d.os,d.tape,d.output,d.size,d.frame,d.own,d.ro⟩⟩;have G:=grownCap_ge w (n+a.length) c e;refine bj.aD (ρ:=ρ.ey H.next _) H.next 0 (n+a.length) Z _ _ (grownCap w (n+a.length) c e) (Env.ht _ _ _) G (λk K=>by cases K) (λ_=>⟨by show(⟨w.heap.size,0,Z⟩:Addr)=⟨w.heap.size,0+0*i.size,Z⟩;simp,?_⟩)
 have W:olds.length=n*i.size:=by rw[<-bZ.length,mQ bz,L]
 have aa:news.length=a.length*i.size:=by rw[<-d3.length,mQ d1]
 have dH:(Builtin.zeroCells h.cells (grownCap w (n+a.length) c e-(n+a.length))).size=(grownCap w (n+a.length) c e-(n+a.length))*i.size:=by rw[size_zeroCells,S]
 simp only[Nat.zero_add,List.length_append,W,aa,Array.length_toList,dH];rw[<-Nat.add_mul,<-Nat.add_mul];exact Nat.mul_le_mul_right _ af
def Ls(E:Rel ρ H w)(ax:ρ H.next=Z){ot:Option TypeId}{l i n esz:Nat}{els:List (List ad)}(K:H.get l=D (dK ot esz els)){loc:Loc}(R:ρ l=D loc)(aU:i+n<=els.length)
  {d:List (List ad)} (d1:∀e∈d,e.length=esz) (d2:∀e∈d,∀v∈e,v.one=X) {news:List Value} (d3:bB ρ d.flatten news) (aT:loc.off+(i+n+d.length)*esz<=loc.size) (aG:∀y,ot=D y->i=0):
  Step ρ H w (ρ.ey H.next ⟨loc.block,loc.off+i*esz,esz,loc.size⟩) ((H.set l .dead).push (dK ot esz ((els.drop i).take n++d))) (w.setCells loc.block (loc.off+(i+n)*esz) news):=by
 have aE:=ae.aV K;obtain⟨m,p,⟨_,arr,t,aj,V,an,aJ⟩,aM⟩:=tI E K;obtain rfl:loc=m:=Option.some.inj (R.symm.trans p);have aK:=an.1;have ay:=an.2 rfl;have hle:=Env.rH ax ⟨loc.block,loc.off+i*esz,esz,loc.size⟩;have aX:news.length=d.length*esz:=by rw[<-d3.length,mQ d1]
 obtain⟨s1,s2,e1,aO⟩:=x3 loc.block news (loc.off+(i+n)*esz) w;have B:∀k,k≠H.next->k≠l->((H.set l .dead).push (dK ot esz ((els.drop i).take n++d))).get k=H.get k:=λk G s=>by
  rw[ae.dC (by simpa using G),ae.get_set_other (Ne.symm s)]
 have A:((H.set l .dead).push (dK ot esz ((els.drop i).take n++d))).get l=D .dead:=by
  rw[ae.dC (by simp;omega),ae.get_set_same aE]
 have P:((H.set l .dead).push (dK ot esz ((els.drop i).take n++d))).get H.next=D (dK ot esz ((els.drop i).take n++d)):=ae.bM (H.set l .dead) _
 have au:∀k,((H.set l .dead).push (dK ot esz ((els.drop i).take n++d))).rw k->k≠H.next->H.rw k/\k≠l:=λk h a=>by
  have c:k≠l:=by rintro rfl;rcases h with⟨_,_,h⟩|⟨_,h⟩|⟨_,_,_,h⟩<;>(rw[A]at h;cases h)
  simpa [ae.rw,B k a c,c]using h
 have ap:∀k,((H.set l .dead).push (dK ot esz ((els.drop i).take n++d))).live k->k≠H.next->H.live k/\k≠l:=λk h a=>by
  have c:k≠l:=by rintro rfl;rcases h with⟨_,_,_,h⟩|⟨_,h⟩|⟨_,_,_,h⟩<;>(rw[A]at h;cases h)
  simpa [ae.live,B k a c,c]using h
 have L:∀k m,H.live k->k≠l->ρ k=D m->m.block≠loc.block:=λk m h a1 e heq=>
  E.apart l k loc m (oC K) h (Ne.symm a1) R e heq.symm
 have key:fy (ρ.ey H.next ⟨loc.block,loc.off+i*esz,esz,loc.size⟩) (w.setCells loc.block (loc.off+(i+n)*esz) news) ⟨loc.block,loc.off+i*esz,esz,loc.size⟩ U esz ((els.drop i).take n++d)/\
   (w.setCells loc.block (loc.off+(i+n)*esz) news).heap[loc.block]? =D (.cells (h2 arr (loc.off+(i+n)*esz) news) t aj):=by
  refine⟨⟨rfl,_,t,aj,sy _ _ _ _ _ _ _ V,⟨by rw[sd];exact aK,λ_=>by rw[sd];exact ay⟩,?_⟩,sy _ _ _ _ _ _ _ V⟩;intro q e he;have aC:((els.drop i).take n).length=n:=by simp;omega
  by_cases aY:q<n
  ·rw[List.getElem?_append_left af]at he;have aw:=tW he;obtain⟨a0,aQ⟩:=aJ _ e aw;refine⟨a0,λj v o=> ?_⟩;obtain⟨S,x,N,M⟩:=aQ j v o;refine⟨S,x,?_,M.mono hle⟩;have aA:j<esz:=by
    rcases Nat.lt_or_ge j e.length with h|h
    ·omega
    ·rw[List.getElem?_eq_none h]at o;cases o
   show(h2 arr (loc.off+(i+n)*esz) news)[loc.off+i*esz+q*esz+j]? =D x;rw[qd _ _ _ _ (by have:=rR (n:=esz) (show i+q<i+n by omega);rw[Nat.add_mul]at this;omega)];rw[show loc.off+i*esz+q*esz+j=loc.off+(i+q)*esz+j by rw[Nat.add_mul];omega];exact N
  ·rw[List.getElem?_append_right af,aC]at he;refine⟨d1 e (List.mem_of_getElem? he),λj v o=> ?_⟩;obtain⟨x,N,M⟩:=d3.get _ _ (wu d1 he o);refine⟨d2 e (List.mem_of_getElem? he) v (List.mem_of_getElem? o),x,?_,M.mono hle⟩;have aH:q-n<d.length:=by
    rcases Nat.lt_or_ge (q-n) d.length with h|h
    ·exact h
    ·rw[List.getElem?_eq_none h]at he;cases he
   have aA:j<esz:=by
    have:=d1 e (List.mem_of_getElem? he);rcases Nat.lt_or_ge j e.length with h|h
    ·omega
    ·rw[List.getElem?_eq_none h]at o;cases o
   have aS:=rR (n:=esz) aH;have aW:(i+n+d.length)*esz=(i+n)*esz+d.length*esz:=Nat.add_mul _ _ _;have:=t_ news arr (loc.off+(i+n)*esz) ((q-n)*esz+j) x N af;show(h2 arr (loc.off+(i+n)*esz) news)[loc.off+i*esz+q*esz+j]? =D x;rw[show loc.off+i*esz+q*esz+j=loc.off+(i+n)*esz+((q-n)*esz+j) by
    have:q*esz=n*esz+(q-n)*esz:=by rw[<-Nat.add_mul];congr 1;omega
    rw[Nat.add_mul];omega]
   exact this
 refine⟨hle,by simp,λk a=>Env.hP (by simp at a;omega),⟨?_,?_,?_,?_⟩,s2,e1,aO,Nat.le_of_eq s1.symm,?_,?_,?ro⟩
 case ro=>
  intro k ai ah h;by_cases a:k=H.next
  ·subst a;rw[P]at h;have:=xg ot esz ((els.drop i).take n++d);rw[Option.some.inj h]at this;cases this
  ·by_cases c:k=l
   ·subst c;rw[A]at h;cases h
   ·rwa[B k a c]at h
 ·intro k a2 ai ah h;by_cases a:k=H.next
  ·subst a;rw[P]at h;obtain⟨rfl,rfl,rfl,-⟩:=xh (Option.some.inj h);exact⟨_,Env.ht _ _ _,key.1⟩
  ·by_cases c:k=l
   ·subst c;rw[A]at h;cases h
   ·rw[B k a c]at h;obtain⟨m,p,aN,c',y,av,aa,ab,ag⟩:=E.row _ _ _ _ h;have u:=L k m (.inl ⟨_,_,_,h⟩) c p;refine⟨m,by rw[Env.hP a];exact p,aN,c',y,av,by rw[lB _ _ _ _ _ u];exact aa,ab,?_⟩;intro q e he;obtain⟨a0,aQ⟩:=ag q e he;refine⟨a0,λj v o=> ?_⟩;obtain⟨S,x,N,M⟩:=aQ j v o;exact⟨S,x,N,M.mono hle⟩
 ·intro k es h;by_cases a:k=H.next
  ·subst a;rw[P]at h;exact(xf (Option.some.inj h)).elim
  ·by_cases c:k=l
   ·subst c;rw[A]at h;cases h
   ·rw[B k a c]at h;obtain⟨m,p,ents,clock,aa,ab,ag⟩:=E.map _ _ h;have u:=L k m (.inr (.inl ⟨_,h⟩)) c p;exact⟨m,by rw[Env.hP a];exact p,ents,clock,by rw[lB _ _ _ _ _ u];exact aa,ab.mono hle,ag.mono hle⟩
 ·intro k y ai ah h;by_cases a:k=H.next
  ·subst a;rw[P]at h;obtain⟨ak,rfl,rfl⟩:=xi (Option.some.inj h);obtain⟨aP,aR,am,aZ⟩:=aM y ak;obtain rfl:=aG y ak;have aL:y=t:=by rw[V]at am;cases am;rfl
   subst aL;exact⟨_,Env.ht _ _ _,key.1,_,_,key.2,by show loc.off+0*esz=0;omega⟩
  ·by_cases c:k=l
   ·subst c;rw[A]at h;cases h
   ·rw[B k a c]at h;obtain⟨m,p,aI⟩:=E.b0 _ _ _ _ h;have u:=L k m (.inr (.inr ⟨_,_,_,h⟩)) c p;exact⟨m,by rw[Env.hP a];exact p,aI.frame hle (lB _ _ _ _ _ u)⟩
 ·intro k O aq ar G s u F z;by_cases a:k=H.next
  ·subst a;rw[Env.ht]at F;obtain rfl:=Option.some.inj F;obtain⟨T,ao⟩:=ap O s (Ne.symm u);rw[Env.hP (Ne.symm u)]at z;exact(L O ar T ao z).symm
  ·obtain⟨Q,aB⟩:=au k G a;rw[Env.hP a]at F;by_cases W:O=H.next
   ·subst W;rw[Env.ht]at z;obtain rfl:=Option.some.inj z;exact L k aq Q.live aB F
   ·obtain⟨T,ao⟩:=ap O s W;rw[Env.hP W]at z;exact E.apart k O aq ar Q T u F z
 ·intro b _ aF;refine lB _ _ _ _ _ ?_;rintro rfl;exact aF ⟨l,loc,oC K,R,rfl⟩
 ·rintro b ⟨k,m,G,s,al⟩;by_cases a:k=H.next
  ·subst a;rw[Env.ht]at s;obtain rfl:=Option.some.inj s;exact .inl ⟨l,loc,oC K,R,al⟩
  ·obtain⟨Q,_⟩:=au k G a;rw[Env.hP a]at s;exact .inl ⟨k,m,Q,s,al⟩
def Step.dead{v:Env}{i d:ae}{u:World}(h:Step ρ H w v i u)(q:d.next=i.next)(p:∀k,d.get k=i.get k\/d.get k=D .dead):Step ρ H w v d u:=by
 have j:∀k ro esz els,d.get k=D (.row ro esz els)->i.get k=D (.row ro esz els):=λk ro esz els e=>by
  rcases p k with h|h
  ·rw[<-h];exact e
  ·rw[h]at e;cases e
 have get_map:∀k es,d.get k=D (.map es)->i.get k=D (.map es):=λk es e=>by
  rcases p k with h|h
  ·rw[<-h];exact e
  ·rw[h]at e;cases e
 have m:∀k t esz els,d.get k=D (.b0 t esz els)->i.get k=D (.b0 t esz els):=λk t esz els e=>by
  rcases p k with h|h
  ·rw[<-h];exact e
  ·rw[h]at e;cases e
 have s:∀k,d.rw k->i.rw k:=λk h=>by
  rcases h with⟨a,b,h⟩|⟨a,h⟩|⟨a,b,c,h⟩
  ·exact .inl ⟨a,b,j _ _ _ _ h⟩
  ·exact .inr (.inl ⟨a,get_map _ _ h⟩)
  ·exact .inr (.inr ⟨a,b,c,m _ _ _ _ h⟩)
 have z:∀k,d.live k->i.live k:=λk h=>by
  rcases h with⟨a,b,c,h⟩|⟨a,h⟩|⟨a,b,c,h⟩
  ·exact .inl ⟨a,b,c,j _ _ _ _ h⟩
  ·exact .inr (.inl ⟨a,get_map _ _ h⟩)
  ·exact .inr (.inr ⟨a,b,c,m _ _ _ _ h⟩)
 refine⟨h.le,by rw[q];exact h.next,λl y=>h.aW l (by rw[<-q];exact y),⟨λl ro esz els e=>h.rel.row l ro esz els (j _ _ _ _ e),λl es e=>h.rel.map l es (get_map _ _ e),λl t esz els e=>h.rel.b0 l t esz els (m _ _ _ _ e),λl l' a b n o=>h.rel.apart l l' a b (s _ n) (z _ o)⟩,h.os,h.tape,h.output,h.size,h.frame,?_,λk esz els e=>h.ro k esz els (j _ _ _ _ e)⟩;rintro b ⟨l,loc,n,o,x⟩;exact h.own b ⟨l,loc,s _ n,o,x⟩
def HQ{ot:Option TypeId}{l i n esz c:Nat}{els os:List (List ad)}(d:H.get l=D (dK ot c els))(h:eJ H l i n esz=D os):c=esz/\i+n<=els.length/\os=(els.drop i).take n:=by
 unfold eJ at h;cases ot with
 |none=>
  rw[d]at h;simp only[dK]at h;split at h
  ·rename_i a;exact⟨a.1,a.2,(Option.some.inj h).symm⟩
  ·cases h
 |some t=>
  rw[d]at h;simp only[dK]at h;split at h
  ·rename_i a;exact⟨a.1,a.2,(Option.some.inj h).symm⟩
  ·cases h
def CH(y:Rel ρ H w)(L:ρ H.next=Z){ot:Option TypeId}{t eD e:TypeId}(aq:∀s,ot=D s->s=e)(ty:TypeId)(hu:P.underlying t=D (.slice e)){gD:Nat}{z:ad}{l i n:Nat}{cap:Option Nat}{loc:Loc}{a os:List (List ad)}(aB:cap=Z)(aC:¬a.length=0)(d:cA P e=D loc.esz)(ag:hO P e=D gD)(av:eU P e=D z)
  (aw:z.cells.length=loc.esz) (ar:0<loc.esz)
  (d1:∀e∈a,e.length=loc.esz) (d2:∀e∈a,∀v∈e,v.one=X) {news:List Value} (d3:bB ρ a.flatten news) {F:Value} (S:Src P loc.esz eD F a.length news w)
  (E:os.length=n) (bz:∀e∈os,e.length=loc.esz) (bH:∀e∈os,∀v∈e,v.one=X) {olds:List Value} (bZ:bB ρ os.flatten olds) (m:Addr) (c:Nat)
  (hold:(Builtin.firstCells loc.esz n (.slice (D m) n c)).run P w.drew= .ok olds.toArray w.drew) (G:(n+a.length)*gD<=140737488355328/\n+a.length<=9223372036854775807)
  (Q:ρ l=D loc) (ab:0<c->m=⟨loc.block,loc.off+i*loc.esz,Z⟩/\loc.off+(i+c)*loc.esz<=loc.size) {W:Nat} {V:List (List ad)} (an:∀s,ot=D s->i=0) (o:H.get l=D (dK ot W V)) (ap:eJ H l i n loc.esz=D os):
  ∃r u x,(Builtin.append_ #[t,eD] ty #[.slice (D m) n c,F]).run P w= .ok r u/\bj x (.aD H.next 0 (n+a.length) loc.esz Z) r/\Step ρ H w x ((H.set l .dead).push (dK ot loc.esz (os++a))) u:=by
 obtain⟨aE,ao⟩:=HQ o ap;obtain⟨ax,al,⟨ah,arr,t0,ay,K,M,aG⟩,-⟩:=tI y o;obtain rfl:loc=ax:=Option.some.inj (Q.symm.trans al);subst ah;obtain⟨ak,rfl⟩:=ao
 ·have E:=E;by_cases B:n+a.length<=c
  ·obtain⟨rfl,ai⟩:=ab af;have aH:=M.1;have aj:=M.2 rfl;have au:=Ls (n:=n) y L o Q ak d1 d2 d3 (by
    refine Nat.le_trans (Nat.add_le_add_left (Nat.mul_le_mul_right _ ?_) _) ai;omega) an
   have aF:news.length=a.length*loc.esz:=by rw[<-d3.length,mQ d1]
   have N:∀j,j<news.length->loc.off+i*loc.esz+n*loc.esz+j<arr.size:=by
    intro j q;have aa:(i+c)*loc.esz=i*loc.esz+c*loc.esz:=Nat.add_mul _ _ _;have aA:n*loc.esz+a.length*loc.esz<=c*loc.esz:=by rw[<-Nat.add_mul];exact Nat.mul_le_mul_right _ B
    omega
   cases A:P.info? e with
   |none=>unfold cA at d;rw[A]at d;cases d
   |some T=>
    have p:T.size=loc.esz:=by unfold cA at d;rw[A]at d;simpa using d
    have R:=run_append_room_src (P:=P) w t eD ty e T hu A loc.block (loc.off+i*loc.esz) n c F a.length news (by rw[p];exact S) B
     (λj q=>by rw[p];simp[World.cell?,K,N j q])
     (λj q=>by
      rw[p];have:=aj _ (N j q);simp only[World.frozen?,K];simpa using this)
    rw[p]at R;refine⟨_,_,_,R,?_,by rw[show loc.off+i*loc.esz+n*loc.esz=loc.off+(i+n)*loc.esz by rw[Nat.add_mul];omega];exact au⟩;refine bj.aD (ρ:=ρ.ey H.next _) H.next 0 (n+a.length) Z ⟨loc.block,loc.off+i*loc.esz,loc.esz,loc.size⟩ _ c (Env.ht _ _ _) B (λk h=>by cases h) (λ_=>⟨by simp,?_⟩)
    have aa:(i+c)*loc.esz=i*loc.esz+c*loc.esz:=Nat.add_mul _ _ _;simp only[Nat.zero_add];omega
  ·
    obtain⟨r,u,x,g1,g2,g3⟩:=wG y L (ot:=ot) aq ty hu d ag av aw ar d1 d2 d3 S bz bH bZ (D m) n c E hold af G.1 G.2;refine⟨r,u,x,g1,g2,g3.dead (by simp) (λk=> ?_)⟩;have am:=ae.aV o;by_cases h:k=H.next
    ·subst h;left;rw[ae.bM];exact ae.bM (H.set l .dead) _
    ·by_cases O:k=l
     ·subst O;right;rw[ae.dC (by simpa using h),ae.get_set_same am]
     ·left;rw[ae.dC (by simpa using h),ae.get_set_other (Ne.symm O),ae.dC h]
def yA(z:Array Value):∀n,(Builtin.zeroCells z n).toList=(List.replicate n z.toList).flatten
 |0=>by simp[Builtin.zeroCells]
 |n+1=>by
  rw[List.replicate_succ,List.flatten_cons,<-yA z n];apply List.ext_getElem?;intro i;simp only[Builtin.zeroCells,Array.toList_map,Array.toList_range,List.getElem?_map];by_cases a:i<(n+1)*z.size
  ·have d:0<z.size:=by
    rcases Nat.eq_zero_or_pos z.size with h|h
    ·rw[h]at a;simp at a
    ·exact h
   rw[List.getElem?_range a];by_cases c:i<z.size
   ·rw[List.getElem?_append_left (by simpa using c)];simp[Nat.mod_eq_of_lt c,c]
   ·rw[List.getElem?_append_right (by simp;omega)];rw[Nat.succ_mul]at a;simp only[Array.length_toList,List.getElem?_map];rw[List.getElem?_range af];simp only[Option.map_some];rw[show i%z.size=(i-z.size)%z.size from Nat.mod_eq_sub_mod af]
  ·rw[List.getElem?_eq_none (by simp;omega)];rw[List.getElem?_append_right (by simp;rw[Nat.succ_mul]at a;omega)];rw[List.getElem?_eq_none]
   ·rfl
   ·rw[Nat.succ_mul]at a;simp;omega
def M1(t eD ty e:TypeId)(i:TypeInfo)(z:Value)(m:P.underlying t=D (.slice e))(l:P.info? e=D i)(p:i.zero=D z)(o:P.underlying eD=D (.int .i64))(n:Nat)(y:0<n)(aB:0<i.size)
  (v:n*i.bytes<=140737488355328) (u:n<=1125899906842624) (x:Builtin.nextslicecap n 0*i.bytes<=281474976710656):
  (Builtin.append_ #[t,eD] ty #[.slice Z 0 0,.int .i64 n]).run P w=
   .ok (.slice (D ⟨w.heap.size,0,Z⟩) n (grownCap w n 0 e)) (w.drew.alloc (.cells (Builtin.zeroCells z.cells n++Builtin.zeroCells z.cells (grownCap w n 0 e-n)) e)):=by
 have hw:IntKind.i64.wrap (n:Int)=n:=IntWalk.i64_in n ⟨af,af⟩;have a:¬((n:Int)<0):=af;have c:¬((n:Int)*(i.bytes:Int)>281474976710656):=by
  have:((n*i.bytes:Nat):Int)<=140737488355328:=af;rw[Int.natCast_mul]at this;omega
 have q:¬(n<=0):=af;have d:¬(9223372036854775807<(n:Int)):=af;have j:¬(281474976710656<Builtin.nextslicecap n 0*i.bytes):=af;have k:¬(n*i.size=0):=by
  intro h;rcases Nat.mul_eq_zero.1 h with h|h<;>omega
 have s:¬(n=0\/i.size=0):=af;simp[Builtin.append_,run_underlying m,run_underlying o,sizeOf,typeInfo,zeroValue,l,p,a,c,d,j,hw,asInt,asIntOf,Question.forced,newRow,grownCap,Builtin.firstCells];rw[if_neg af,if_neg k]
def GX{ρ:Env}{cs:List ad}{xs:List Value}(h:bB ρ cs xs):∀n,bB ρ (List.replicate n cs).flatten (List.replicate n xs).flatten
 |0=> .nil
 |n+1=>by rw[List.replicate_succ,List.replicate_succ,List.flatten_cons,List.flatten_cons];exact h.append (GX h n)
def Ib(K:Rel ρ H w){t eD e:TypeId}{s x a:ad}{s' B:Value}{H':ae}(ty:TypeId)(hu:P.underlying t=D (.slice e))(ab:P.underlying eD=D (.int .i64))(h:vN P H e s x=D (a,H'))(N:H.next<H'.next->ρ H.next=Z)(aB:bj ρ s s')(aa:bj ρ x B):
  ∃r A E,(Builtin.append_ #[t,eD] ty #[s',B]).run P w= .ok r A/\bj E a r/\Step ρ H w E H' A:=by
 unfold vN at h;split at h
 ·rename_i n;cases aB;cases aa;split at h
  ·rename_i esz gD z l j m;split at h
   ·rename_i L;obtain⟨S,y,V,T,o,G⟩:=L;simp only[aS,b5]at h;obtain⟨rfl,rfl⟩:=h;have M:=N (by simp);unfold eU at m;unfold cA at l;unfold hO at j;simp only[c1]at m;obtain⟨i,p,d,ah,ai⟩:=m;rw[p]at l j;simp only[Option.map_some,aS]at l j;subst l;subst j;have u:=(tO ai ρ).cells;have ag:d.cells.size=i.size:=by have:=u.length;rw[y]at this;simpa using this.symm
    have O:=growslice_fits (need:=n) (old:=0) (bytes:=i.bytes) af o;have W:=M1 (P:=P) (w:=w) t eD ty e i d hu p ah ab n S V o G (by simpa using O);have c:=sc (w:=w.drew) K.drew M (ot:=none) (esz:=i.size) (els:=List.replicate n z.cells) (λe he=>by rw[List.eq_of_mem_replicate he];exact y) (λe he v q=>by rw[List.eq_of_mem_replicate he]at q;exact List.all_eq_true.1 T v q)
     (xs:=(Builtin.zeroCells d.cells n).toList) (tail:=(Builtin.zeroCells d.cells (grownCap w n 0 e-n)).toList) (by rw[yA];exact GX u n) e (λ_ h=>by cases h)
    have F:((Builtin.zeroCells d.cells n).toList++(Builtin.zeroCells d.cells (grownCap w n 0 e-n)).toList).toArray=Builtin.zeroCells d.cells n++Builtin.zeroCells d.cells (grownCap w n 0 e-n):=by
     apply Array.ext';simp
    rw[F]at c;refine⟨_,_,_,W,?_,⟨c.le,c.next,c.aW,c.rel,c.os,c.tape,c.output,c.size,c.frame,c.own,c.ro⟩⟩;have Q:n<=grownCap w n 0 e:=grownCap_ge w n 0 e;refine bj.aD (ρ:=ρ.ey H.next _) H.next 0 n Z _ _ (grownCap w n 0 e) (Env.ht _ _ _) Q (λk R=>by cases R) (λ_=>⟨by show(⟨w.heap.size,0,Z⟩:Addr)=⟨w.heap.size,0+0*i.size,Z⟩;simp,?_⟩)
    simp only[Nat.zero_add,Array.length_toList,size_zeroCells,ag];rw[<-Nat.add_mul];exact Nat.mul_le_mul_right _ af
   ·cases h
  ·cases h
 ·cases h
def HF(m:Rel ρ H w){ts:List TypeId}{s x a:ad}{s' E:Value}{H':ae}(ty:TypeId)(h:c0 P H ts s x=D (a,H'))(y:H.next<H'.next->ρ H.next=Z)(aB:bj ρ s s')(ai:bj ρ x E):
  ∃r aj ak,(Builtin.append_ ts.toArray ty #[s',E]).run P w= .ok r aj/\bj ak a r/\Step ρ H w ak H' aj:=by
 unfold c0 at h;split at h
 ·rename_i t eD;split at h
  ·rename_i e hu;split at h
   ·rename_i an;exact Ib m ty hu (Kn an) h y aB ai
   split at h
   ·rename_i esz gD z q F L;split at h
    ·rename_i N aq;obtain⟨d1,d2,news,d3,B⟩:=Im (P:=P) m aq ai;split at h
     ·rename_i au;obtain⟨M,K⟩:=au;have ag:N.length=0->Src P esz eD E 0 [] w:=λd=>by
       have:N=[]:=List.eq_nil_of_length_eq_zero d;subst this;have:news=[]:=by cases d3;rfl
       subst this;simpa using B
      split at h
      ·cases aB;split at h
       ·rename_i d;simp only[aS,b5]at h;obtain⟨rfl,rfl⟩:=h;exact⟨_,_,_,Fl w t eD ty e hu q Z 0 0 (bm _) E (ag d),.az,Step.refl m⟩
       ·rename_i d;split at h
        ·rename_i p;simp only[aS,b5]at h;obtain⟨rfl,rfl⟩:=h;have R:=y (by simp);have:=wG m R (Iu (x:=x)) ty hu q F L M K d1 d2 d3 B (os:=[]) (by simp) (by simp) (olds:=[]) (by simpa using bB.nil) Z 0 0 rfl
          (run_firstCells_none w.drew esz 0 0 0) af (by simpa using p.1) (by simpa using p.2)
         simpa using this
        ·cases h
      ·rename_i l i n aw cap;split at h
       ·rename_i he;split at h
        ·rename_i d;simp only[aS,b5]at h;obtain⟨rfl,rfl⟩:=h;cases aB with|aD _ _ _ _ loc o c A T O v=>
         exact⟨_,_,_,Fl w t eD ty e hu q (D o) n c T E (ag d),.aD l i n cap loc o c A T O v,Step.refl m⟩
        ·rename_i d;split at h
         ·rename_i p;split at h
          ·rename_i os V;cases aB with|aD _ _ _ _ loc o c A T O v=>
           subst he;obtain⟨W,bz,bH,olds,bZ,dF,av,ax⟩:=vE m V A;have hold:(Builtin.firstCells loc.esz n (.slice (D o) n c)).run P w.drew= .ok olds.toArray w.drew:=by
            refine run_firstCells_some w.drew loc.esz n o n c olds dF (λj u ab=> ?_);have ap:0<c:=by
             rcases Nat.eq_zero_or_pos c with d|d
             ·have ar:n=0:=af;rw[ar]at dF;have:olds=[]:=List.eq_nil_of_length_eq_zero (by simpa using dF);subst this;simp at ab
             ·exact d
            obtain⟨rfl,_⟩:=v ap;rw[kR];exact av j u ab
           split at h
           ·rename_i G;simp only[aS,b5]at h;obtain⟨rfl,rfl⟩:=h;have R:=y (by simp);have ao:c<n+N.length:=by
             cases Q:cap with
             |none=>rw[Q]at G;simp at G
             |some k=>rw[Q]at G;simp at G;have:=O k Q;omega
            exact wG m R (ot:=none) (λ_ h=>by cases h) ty hu q F L M K d1 d2 d3 B bz bH bZ (D o) n c W hold ao p.1 p.2
           ·split at h
            ·rename_i aa;split at h
             ·rename_i al am S;simp only[aS,b5]at h;obtain⟨rfl,rfl⟩:=h;exact CH m (y (by simp)) (ot:=none) (λ_ h=>by cases h) ty hu aa d q F L M K d1 d2 d3 B W bz bH bZ o c hold p A v (λ_ h=>by cases h) S V
             ·rename_i t0 al am S;split at h
              ·rename_i ah;simp only[aS,b5]at h;obtain⟨rfl,rfl⟩:=h;exact CH m (y (by simp)) (ot:=some t0) (λ_ h=>by rw[<-Option.some.inj h];exact ah.1) ty hu aa d q F L M K d1 d2 d3 B W bz bH bZ o c hold p A v (λ_ _=>ah.2) S V
              ·cases h
             ·cases h
            ·cases h
          ·cases h
         ·cases h
       ·cases h
      ·cases h
     ·cases h
    ·cases h
   ·cases h
  ·cases h
 ·cases h
end
section
variable {P:Program}{ρ:Env}{H:ae}{w:World}
def vK(P:Program)(H:ae)(t:TypeId)(x:ad):Option ad:=
 match P.underlying t,x with
 |some .string,.str s=>D (.int .i64 s.length)
 |some (.slice _),.aD _ _ n _ _=>D (.int .i64 n)
 |some (.slice _),.az=>D (.int .i64 0)
 |some (.array n _),_=>D (.int .i64 n)
 |some (.map _ _),.hY=>D (.int .i64 0)
 |some (.map _ _),.map l=>(match H.get l with|some (.map es)=>D (.int .i64 es.length)|_=>Z)
 |_,_=>Z
def rz{l:Nat}{es:List (ad×ad)}(e:Rel ρ H w)(h:H.get l=D (.map es)){loc:Loc}(i:ρ l=D loc):
  ∃ents clock,w.heap[loc.block]? =D (.map ents clock)/\(getObj loc.block).run P w= .ok (.map ents clock) w/\bB ρ (es.map (·.1)) (ents.toList.map (·.key))/\bB ρ (es.map (·.2)) (ents.toList.map (·.val)):=by
 obtain⟨k,j,ents,clock,a,c,d⟩:=e.map _ _ h;obtain rfl:loc=k:=Option.some.inj (i.symm.trans j);exact⟨ents,clock,a,by simp[getObj,Sem.run,a],c,d⟩
def H6(i:Rel ρ H w){t:TypeId}{x v:ad}{c:Value}(ty:TypeId)(h:vK P H t x=D v)(a:bj ρ x c):∃r,(Builtin.len_ #[t] ty #[c]).run P w= .ok r w/\bj ρ v r:=by
 unfold vK at h;split at h
 ·rename_i s hu;cases a;simp only[aS]at h;subst h;have aB:(⟨s.toArray⟩:ByteArray).size=s.length:=by show s.toArray.size=_;simp
  exact⟨_,by simp[Builtin.len_,run_underlying hu,goInt,aB],.int _ _⟩
 ·rename_i hu;cases a;simp only[aS]at h;subst h;exact⟨_,by simp[Builtin.len_,run_underlying hu,goInt],.int _ _⟩
 ·rename_i hu;cases a;simp only[aS]at h;subst h;exact⟨_,by simp[Builtin.len_,run_underlying hu,goInt],.int _ _⟩
 ·rename_i n e hu;simp only[aS]at h;subst h;exact⟨_,by simp[Builtin.len_,run_underlying hu,goInt],.int _ _⟩
 ·rename_i hu;cases a;simp only[aS]at h;subst h;exact⟨_,by simp[Builtin.len_,run_underlying hu,goInt],.int _ _⟩
 ·rename_i hu;cases a with|map _ loc l=>
  split at h
  ·rename_i es j;simp only[aS]at h;subst h;obtain⟨ents,clock,o,k,d,m⟩:=rz (P:=P) i j l;have hlen:=d.length;simp only[List.length_map,Array.length_toList]at hlen;exact⟨_,by simp[Builtin.len_,run_underlying hu,goInt,k,<-hlen],.int _ _⟩
  ·cases h
 ·cases h
def s4(x y:ad):Option ad:=
 match x,y with
 | .int k a,.int _ b=>D (.int k (if a<b then b else a))
 |_,_=>Z
def s5(x y:ad):Option ad:=
 match x,y with
 | .int k a,.int _ b=>D (.int k (if b<a then b else a))
 |_,_=>Z
def Ie{x y v:ad}{a c:Value}(ts:Array TypeId)(ty:TypeId)(h:s4 x y=D v)(d:bj ρ x a)(e:bj ρ y c)(w:World):∃r,(Builtin.max_ ts ty #[a,c]).run P w= .ok r w/\bj ρ v r:=by
 unfold s4 at h;split at h
 ·cases d;cases e;simp only[aS]at h;subst h;exact⟨_,by simp[Builtin.max_,Builtin.max2],.int _ _⟩
 ·cases h
def Ih{x y v:ad}{a c:Value}(ts:Array TypeId)(ty:TypeId)(h:s5 x y=D v)(d:bj ρ x a)(e:bj ρ y c)(w:World):∃r,(Builtin.min_ ts ty #[a,c]).run P w= .ok r w/\bj ρ v r:=by
 unfold s5 at h;split at h
 ·cases d;cases e;simp only[aS]at h;subst h;exact⟨_,by simp[Builtin.min_,Builtin.min2],.int _ _⟩
 ·cases h
def ic(x:ad)(i:Nat):Option ad:=
 match x with
 | .tuple a=>a[i]?
 |_=>Z
def HR{x v:ad}{a:Value}{i:Nat}(h:ic x i=D v)(e:bj ρ x a)(w:World):∃r,(Instr.extract a i).run P w= .ok r w/\bj ρ v r:=by
 unfold ic at h;split at h
 ·cases e with|tuple _ xs aB=>
  obtain⟨r,c,d⟩:=aB.get _ _ h;exact⟨r,by simp[Instr.extract,c],d⟩
 ·cases h
def mG(P:Program)(src dst:TypeId)(x:ad):Option ad:=
 match P.underlying src,P.underlying dst,x with
 |some _,D (.int k),.int _ n=>D (.int k (k.wrap n))
 |some _,D .string,.str s=>D (.str s)
 |_,_,_=>Z
def HO{src dst:TypeId}{x v:ad}{d:Value}(h:mG P src dst x=D v)(c:bj ρ x d)(w:World):∃r,(convert src dst d).run P w= .ok r w/\bj ρ v r:=by
 unfold mG at h;split at h
 ·rename_i aB a;cases c;simp only[aS]at h;subst h;exact⟨_,by simp[convert,run_underlying aB,run_underlying a,Conv.intToInt],.int _ _⟩
 ·rename_i aB a;cases c;simp only[aS]at h;subst h;exact⟨_,by simp[convert,run_underlying aB,run_underlying a],.str _⟩
 ·cases h
def byteOf:List ad->Option UInt8
 |[.int .u8 n]=>D (UInt8.ofNat n.toNat)
 |_=>Z
def bytesOf:List (List ad)->Option (List UInt8)
 |[]=>D []
 |e::r=>match byteOf e,bytesOf r with
  |some b,D l=>D (b::l)
  |_,_=>Z
def n7(P:Program)(H:ae)(src dst:TypeId)(x:ad):Option ad:=
 match P.underlying src,P.underlying dst,x with
 |some (.slice e),D .string,.aD l i n esz _=>
  (match P.underlying e,eJ H l i n esz with
  |some (.int .u8),D a=>if esz=1 then(bytesOf a).map .str else Z
  |_,_=>Z)
 |some (.slice e),D .string,.az=>(match P.underlying e with|some (.int .u8)=>D (.str [])|_=>Z)
 |_,_,_=>Z
def zX(f:Value->ByteArray->Sem (ForInStep ByteArray))(j:∀n s,f (.int .u8 n) s=pure (ForInStep.yield (s.push (UInt8.ofNat n.toNat)))):∀(e:List (List ad)) (c:List UInt8),bytesOf e=D c->∀(xs:List Value),bB ρ e.flatten xs->∀(acc:ByteArray),
  (forIn xs acc f).run P w= .ok (acc++⟨c.toArray⟩) w
 |[],c,h,xs,i,acc=>by
  simp[bytesOf]at h;subst h;cases i;have:acc++(⟨#[]⟩:ByteArray)=acc:=by apply ByteArray.ext;simp
  simp[Sem.run_pure,this]
 |d::e,c,h,xs,i,acc=>by
  unfold bytesOf at h;split at h
  ·rename_i b l a k;simp only[aS]at h;subst h;unfold byteOf at a;split at a
   ·rename_i n;simp only[aS]at a;subst a;cases i with|cons _ x _ q m o=>
    cases m;have p:=zX f j e l k q o (acc.push (UInt8.ofNat n.toNat));rw[List.forIn_cons];simp only[Sem.run_bind,j,Sem.run_pure,Result.andThen_ok];rw[p]
    congr 1
    apply ByteArray.ext;simp
   ·cases a
  ·cases h
def HK(z:Rel ρ H w){src dst:TypeId}{x v:ad}{q:Value}(h:n7 P H src dst x=D v)(p:bj ρ x q):∃r,(convert src dst q).run P w= .ok r w/\bj ρ v r:=by
 unfold n7 at h;split at h
 ·rename_i e l i n esz cap aB k;split at h
  ·rename_i s he F;split at h
   ·rename_i y;simp only[Option.map_eq_some_iff]at h;obtain⟨d,B,rfl⟩:=h;cases p with|aD _ _ _ _ loc a c K O N A=>
    obtain⟨R,bz,bH,xs,bZ,dF,M,S⟩:=vE z F K;refine⟨.string ⟨d.toArray⟩,?_,.str _⟩;have L:(loadCells a n).run P w= .ok xs.toArray w:=by
     rw[y,Nat.mul_one]at dF;rw[<-dF];refine run_loadCells_list w a xs (λj u o=> ?_);have E:0<c:=by
      rcases Nat.eq_zero_or_pos c with m|m
      ·have Q:n=0:=af;have:xs=[]:=List.eq_nil_of_length_eq_zero af;subst this;simp at o
      ·exact m
     obtain⟨rfl,_⟩:=A E;rw[kR];exact M j u o
    have G:ByteArray.empty++(⟨d.toArray⟩:ByteArray)=⟨d.toArray⟩:=by apply ByteArray.ext;simp
    simp only[convert,Sem.run_bind,run_underlying aB,run_underlying k,run_underlying he,Result.andThen_ok,Conv.bytesToString,L];rw[<-Array.forIn_toList];show((Sem.run P (forIn xs ByteArray.empty _) w).andThen _)=_;rw[zX (P:=P) (w:=w) _ (λ_ _=>rfl) s d B xs bZ ByteArray.empty,G];rfl
   ·cases h
  ·cases h
 ·rename_i e aB k;cases p;split at h
  ·rename_i he;simp only[aS]at h;subst h;exact⟨.string ⟨#[]⟩,by simp[convert,run_underlying aB,run_underlying k,run_underlying he,Conv.bytesToString];rfl,.str []⟩
  ·cases h
 ·cases h
def s3(P:Program)(H:ae)(t:TypeId)(l c:ad):Option (ad×ae):=
 match P.underlying t,l,c with
 |some (.slice e),.int d n,.int h m=>
  (match cA P e,hO P e,eU P e with
  |some a,D gD,D z=>
   if d= .i64/\h= .i64/\0<=n/\n<=m/\m<=9223372036854775807/\(gD:Int)*m<=281474976710656/\z.cells.length=a/\0<a/\z.cells.all ad.one=X then
    D (.aD H.next 0 n.toNat a (D m.toNat),H.push (.row U a (List.replicate m.toNat z.cells)))
   else Z
  |_,_,_=>Z)
 |_,_,_=>Z
def wrap_i64{n:Int}(a:0<=n)(c:n<=9223372036854775807):IntKind.i64.wrap n=n:=IntWalk.i64_in n ⟨af,af⟩
def Ic(G:Rel ρ H w)(M:ρ H.next=Z){t:TypeId}{l c a:ad}{l' c':Value}{H':ae}(h:s3 P H t l c=D (a,H'))(O:bj ρ l l')(K:bj ρ c c'):
  ∃r E F,(Instr.makeSlice t l' c').run P w= .ok r E/\bj F a r/\Step ρ H w F H' E:=by
 unfold s3 at h;split at h
 ·rename_i e al n am m hu;cases O;cases K;split at h
  ·rename_i i gD z d k aa;split at h
   ·rename_i L;obtain⟨rfl,rfl,s,v,x,ah,A,ak,R⟩:=L;simp only[aS,b5]at h;obtain⟨rfl,rfl⟩:=h;obtain⟨q,ag,ab⟩:=mK aa w;have S:∀u∈z.cells,u.one=true:=by simpa using R
    have y:=(ab ρ).cells;have p:q.cells.size=i:=by have:=y.length;rw[<-A,this];simp
    have T:=bB.wv y m.toNat;have aB:=sc G M (ot:=none) (esz:=i) (els:=List.replicate m.toNat z.cells) (λe he=>by rw[List.eq_of_mem_replicate he];exact A)
     (λe he=>by rw[List.eq_of_mem_replicate he];exact S) T (tail:=[]) e (λ_ h=>by cases h)
    cases j:P.info? e with
    |none=>unfold cA at d;rw[j]at d;cases d
    |some B=>
     have ai:B.size=i:=by unfold cA at d;rw[j]at d;simpa using d
     have N:B.bytes=gD:=by unfold hO at k;rw[j]at k;simpa using k
     have hlen:(List.replicate m.toNat q.cells.toList).flatten.length=m.toNat*i:=by simp[p]
     refine⟨.slice (D ⟨w.heap.size,0,Z⟩) n.toNat m.toNat,_,_,?_,?_,aB⟩
     ·have V:=wrap_i64 s (Int.le_trans v x);have W:=wrap_i64 (Int.le_trans s v) x;have aj:¬(m<0\/281474976710656<(gD:Int)*m):=af;have hzero:=Hl q.cells m.toNat af;rw[p]at hzero;simp only[Instr.makeSlice,Sem.run_bind,run_underlying hu,Result.andThen_ok,asInt,asIntOf,Sem.run_pure,typeInfo,j,N,V,W,run_program];rw[if_neg (by simp;omega)];simp only[Sem.run_bind,run_askRoom,Result.andThen_ok,run_sizeOf d];by_cases o:m.toNat*i=0
      ·simp only[o,if_true];have Q:m.toNat=0:=by rcases Nat.mul_eq_zero.1 o with h|h<;>omega
       have eo:Array.range 0= #[]:=rfl;simp[newRow,eo,Q]
      ·simp only[o,if_false,Sem.run_bind,ag,Result.andThen_ok,Sem.run_pure,p,hzero];simp[newRow]
     ·refine bj.aD (ρ:=ρ.ey H.next _) H.next 0 n.toNat (D m.toNat) ⟨w.heap.size,0,i,_⟩ _ m.toNat (Env.ht _ _ _) af (by simp) (λ_=>⟨by simp,?_⟩)
      simp only[Nat.zero_add,hlen];simp
   ·cases h
  ·cases h
 ·cases h
def vC(P:Program)(t:TypeId)(x:ad):Option ad:=
 match P.underlying t,x with
 |some (.slice _),.aD _ _ _ _ (D k)=>D (.int .i64 k)
 |some (.slice _),.az=>D (.int .i64 0)
 |_,_=>Z
def HM{t:TypeId}{x v:ad}{j:Value}(ty:TypeId)(h:vC P t x=D v)(d:bj ρ x j)(w:World):∃r,(Builtin.cap_ #[t] ty #[j]).run P w= .ok r w/\bj ρ v r:=by
 unfold vC at h;split at h
 ·rename_i e l i n esz k hu;cases d with|aD _ _ _ _ loc a c p q m o=>
  obtain rfl:=m k rfl;simp only[aS]at h;subst h;exact⟨_,by simp[Builtin.cap_,run_underlying hu,goInt],.int _ _⟩
 ·rename_i e hu;cases d;simp only[aS]at h;subst h;exact⟨_,by simp[Builtin.cap_,run_underlying hu,goInt],.int _ _⟩
 ·cases h
def Fv(b:Nat):∀(xs a:List Value) (o:Nat) (w:World),w.setCells b o (xs++a)=(w.setCells b o xs).setCells b (o+xs.length) a
 |[],a,o,w=>by simp[World.setCells]
 |x::xs,a,o,w=>by
  simp only[List.cons_append,World.setCells];rw[Fv b xs a,List.length_cons,show o+1+xs.length=o+(xs.length+1) by omega]
def oh(H:ae)(l:Nat)(cs:List ad):Nat->Nat->Option ae
 |_,0=>D H
 |i,k+1=>match H.get l with
  |some (.row U esz els)=>(match els[i]? with
   |some e=>if cs.length=esz then(oh (H.set l (.row U esz (els.set i (cQ e 0 cs)))) l cs (i+1) k)else Z
   |none=>Z)
  |_=>Z
def z8{l:Nat}{loc:Loc}{cs:List ad}{xs:List Value}(d:bB ρ cs xs)(j:∀v∈cs,v.one=X)(m:ρ l=D loc)(hlen:cs.length=loc.esz):
  ∀(k i:Nat) (H H':ae) (w:World),Rel ρ H w->oh H l cs i k=D H'->Step ρ H w ρ H' (w.setCells loc.block (loc.off+i*loc.esz) (List.replicate k xs).flatten)
 |0,i,H,H',w,a,h=>by
  simp only[oh,aS]at h;subst h;simpa [World.setCells]using Step.refl a
 |k+1,i,H,H',w,a,h=>by
  unfold oh at h;split at h
  ·rename_i esz els n;split at h
   ·rename_i e he;split at h
    ·rename_i o;have s1:=yy a (ot:=none) n m he (c:=0) (cs:=cs) af j d;have s2:=z8 d j m hlen k (i+1) _ H' _ s1.rel h;have e1:=s1.trans s2;rw[List.replicate_succ,List.flatten_cons,Fv,<-d.length,hlen,show loc.off+i*loc.esz+loc.esz=loc.off+(i+1)*loc.esz by rw[Nat.succ_mul];omega];exact e1
    ·cases h
   ·cases h
  ·cases h
def I_{l:Nat}{cs:List ad}:∀{k i:Nat} {H H':ae},0<k->oh H l cs i k=D H'->∃esz els,H.get l=D (.row U esz els)/\cs.length=esz
 |0,_,_,_,h,_=>af
 |k+1,i,H,H',_,h=>by
  unfold oh at h;split at h
  ·rename_i esz els c;split at h
   ·split at h
    ·rename_i a;exact⟨esz,els,c,a⟩
    ·cases h
   ·cases h
  ·cases h
def sX(P:Program)(H:ae)(ts:List TypeId)(x:ad):Option ae:=
 match ts with
 |[t]=>(match P.underlying t with
  |some (.slice e)=>(match x with
   | .az=>D H
   | .aD l i n _ _=>if n=0 then D H else(match eU P e with
    |some z=>if z.cells.all ad.one=X then oh H l z.cells i n else Z
    |none=>Z)
   |_=>Z)
  |_=>Z)
 |_=>Z
def HN(k:Rel ρ H w){ts:List TypeId}{x:ad}{N:Value}{H':ae}(ty:TypeId)(h:sX P H ts x=D H')(L:bj ρ x N):
  ∃M,(Builtin.clear_ ts.toArray ty #[N]).run P w= .ok (.tuple #[]) M/\Step ρ H w ρ H' M:=by
 unfold sX at h;split at h
 ·rename_i t;split at h
  ·rename_i e hu;split at h
   ·cases L;simp only[aS]at h;subst h;exact⟨w,by simp[Builtin.clear_,run_underlying hu],Step.refl k⟩
   ·rename_i l i n esz cap;cases L with|aD _ _ _ _ loc a c F ab aw O=>
    split at h
    ·rename_i p;subst p;simp only[aS]at h;subst h;exact⟨w,by simp[Builtin.clear_,run_underlying hu],Step.refl k⟩
    ·rename_i p;split at h
     ·rename_i z an;split at h
      ·rename_i ag;have G:∀v∈z.cells,v.one=true:=List.all_eq_true.1 ag;obtain⟨y,ak,am⟩:=mK an w;have o:=(am ρ).cells;obtain⟨aq,els,V,Q⟩:=I_ af h;obtain⟨ao,W,S,arr,t0,ar,s,A,ay⟩:=k.row _ _ _ _ V;obtain rfl:loc=ao:=Option.some.inj (F.symm.trans W);have aA:=A.1;have T:=A.2 rfl;have hlen:z.cells.length=loc.esz:=by rw[Q,S]
       have R:0<c:=af;obtain⟨rfl,ax⟩:=O R;have aB:=z8 o G F hlen n i H H' w k h;have al:y.cells.toList.length=loc.esz:=by rw[<-o.length];exact hlen
       have q:((List.replicate n y.cells.toList).flatten).length=n*loc.esz:=by simp[al]<;>rfl
       have B:∀j,j<n*loc.esz->loc.off+i*loc.esz+j<arr.size:=by
        intro j d;have au:(i+c)*loc.esz=i*loc.esz+c*loc.esz:=Nat.add_mul _ _ _;have av:n*loc.esz<=c*loc.esz:=Nat.mul_le_mul_right _ ab;omega
       have K:=run_storeCells_cells (P:=P) loc.block (loc.off+i*loc.esz) (List.replicate n y.cells.toList).flatten 0 w
        (λj d=>by rw[q]at d;simp[World.cell?,s,B j d])
        (λj d=>by
         rw[q]at d;have:=T _ (B j d);simp only[World.frozen?,s,Nat.add_zero];simpa using this)
        (λu hu=>by
         obtain⟨aC,aa,ai⟩:=List.mem_flatten.1 hu;obtain rfl:=List.eq_of_mem_replicate aa;obtain⟨j,d⟩:=List.getElem?_of_mem ai;have E:j<z.cells.length:=by
          rcases Nat.lt_or_ge j y.cells.toList.length with h|h
          ·omega
          ·rw[List.getElem?_eq_none h]at d;cases d
         obtain⟨ap,ah,aj⟩:=o.get j _ (List.getElem?_eq_getElem E);obtain rfl:u=ap:=Option.some.inj (d.symm.trans ah);exact aj.xo (G _ (List.getElem_mem E)))
       rw[<-yA]at K aB;refine⟨_,?_,aB⟩;cases n with
       |zero=>omega
       |succ m=>
        simp only[Builtin.clear_];simp[run_underlying hu,ak];rw[K];simp
      ·cases h
     ·cases h
   ·cases h
  ·cases h
 ·cases h
end
section
variable {P:Program}{ρ:Env}{H:ae}{w:World}
def pY(d:TypeDesc)(a b:ad):Option Bool:=
 match d,a,b with
 | .int _,.int k x,.int c y=>if k=c then D (x==y)else Z
 | .string,.str x,.str y=>D (x==y)
 | .bool,.bool x,.bool y=>D (x==y)
 |_,_,_=>Z
def pF(d:TypeDesc)(k:ad):List (ad×ad)->Nat->Option (Option (Nat×ad))
 |[],_=>D Z
 |e::es,i=>match pY d k e.1 with
  |some X=>D (D (i,e.2))
  |some U=>pF d k es (i+1)
  |none=>Z
def CR{d:TypeDesc}{a b:ad}{b4 cy:Value}{r:Bool}(h:pY d a b=D r)(c:bj ρ a b4)(e:bj ρ b cy):Instr.sameNow d b4 cy=D r:=by
 unfold pY at h;split at h
 ·cases c;cases e;split at h
  ·rename_i i;subst i;simpa [Instr.sameNow]using h
  ·cases h
 ·cases c;cases e;simp only[aS]at h;subst h;simp[Instr.sameNow,x_]
 ·cases c;cases e;simpa [Instr.sameNow]using h
 ·cases h
inductive q2(ρ:Env):Option (Nat×ad)->Option (Nat×Value)->Prop where
 |none:q2 ρ none none
 |some (i:Nat) (v:ad) (x:Value) (h:bj ρ v x):q2 ρ (some (i,v)) (some (i,x))
def ra{d:TypeDesc}{k:ad}{o:Value}(n:bj ρ k o):∀(es:List (ad×ad)) (ents:List MapEntry) (i:Nat) (r:Option (Nat×ad)),pF d k es i=D r->
  bB ρ (es.map (·.1)) (ents.map (·.key))->bB ρ (es.map (·.2)) (ents.map (·.val))->∃c3,Instr.findNow d o ents i=D c3/\q2 ρ r c3/\∀j v,r=D (j,v)->i<=j/\j<i+es.length/\∃e,es[j-i]? =D e/\pY d k e.1=D X
 |[],ents,i,r,h,a,c=>by
  simp[pF]at h;subst h;have:ents=[]:=by
   have:=a.length;simp at this;exact List.eq_nil_of_length_eq_zero this.symm
  subst this;exact⟨Z,rfl,.none,λj v h=>by cases h⟩
 |e::es,[],i,r,h,a,c=>by have:=a.length;simp at this
 |e::es,m::ents,i,r,h,a,c=>by
  simp only[List.map_cons]at a c;cases a with|cons _ _ _ _ aQ p=>
  cases c with|cons _ _ _ _ a2 q=>
  unfold pF at h;unfold Instr.findNow;split at h
  ·rename_i aB;simp only[aS]at h;subst h;rw[CR aB n aQ];exact⟨_,rfl,.some i _ _ a2,λj v l=>by
    simp only[aS,b5]at l;obtain⟨rfl,_⟩:=l;exact⟨bm _,by simp,e,by simp,aB⟩⟩
  ·rename_i aB;rw[CR aB n aQ];obtain⟨c3,u,w,x⟩:=ra n es ents (i+1) r h p q;refine⟨c3,u,w,λj v l=> ?_⟩;obtain⟨A,B,s,y,z⟩:=x j v l;refine⟨af,by simp;omega,s,?_,z⟩;rw[show j-i=(j-(i+1))+1 by omega];simpa using y
  ·cases h
def plainKey(d:TypeDesc):Bool:=
 match d with
 | .int _| .string| .bool=>X
 |_=>U
def s8{t:TypeId}{d:TypeDesc}(hu:P.underlying t=D d)(aC:plainKey d=X)(empty:Bool)(v:Value)(n:Nat)(w:World):(Instr.checkKey empty (n+1) t v).run P w= .ok () w:=by
 unfold Instr.checkKey;simp only[Sem.run_bind,run_underlying hu,Result.andThen_ok];cases d<;>simp[plainKey]at aC<;>rfl
def qa(P:Program)(d:TypeDesc)(k:ad):Bool:=
 match d,k with
 | .array 2 e,.agg cs=>(match P.underlying e with|some (.int _)=>X|_=>U)&&(match cA P e with|some n=>(apart P e cs (0*n)).isSome&&(apart P e cs (1*n)).isSome|none=>U)
 |_,_=>U
def v_{t:TypeId}{d:TypeDesc}{k:ad}{i:Value}(hu:P.underlying t=D d)(aC:qa P d k=X)(s:bj ρ k i)(empty:Bool)(n:Nat)(w:World):(Instr.checkKey empty (n+2) t i).run P w= .ok () w:=by
 unfold qa at aC;split at aC
 ·rename_i e cs;simp only[Bool.and_eq_true]at aC;obtain⟨c,a⟩:=aC;split at c
  ·rename_i u he;split at a
   ·rename_i m hm;simp only[Bool.and_eq_true]at a;obtain⟨a0,o⟩:=Option.isSome_iff_exists.1 a.1;obtain⟨aQ,p⟩:=Option.isSome_iff_exists.1 a.2;cases s with|agg _ xs h=>
    obtain⟨ag,j,_⟩:=mJ o h w;obtain⟨ar,l,_⟩:=mJ p h w;have q:∀v:Value,(Instr.checkKey empty (n+1) e v).run P w= .ok () w:=λv=>s8 he rfl empty v n w
    unfold Instr.checkKey;simp only[Sem.run_bind,run_underlying hu,Result.andThen_ok];rw[Std.Legacy.Range.forIn_eq_forIn_range'];simp only[Nat.zero_mul,Nat.one_mul]at j l;simp[List.range',run_sizeOf hm,j,l,q]
   ·cases a
  ·cases c
 ·cases aC
def n8(P:Program)(a:TypeId)(k:ad):List (ad×ad)->Nat->Option (Option (Nat×ad))
 |[],_=>D Z
 |e::es,i=>match kc P 10000 a k e.1 with
  |some X=>D (D (i,e.2))
  |some U=>n8 P a k es (i+1)
  |none=>Z
def y0{j:TypeId}{k:ad}{d:Value}(l:bj ρ k d)(w:World):∀(es:List (ad×ad)) (ents:List MapEntry) (i:Nat) (r:Option (Nat×ad)),n8 P j k es i=D r->
  bB ρ (es.map (·.1)) (ents.map (·.key))->bB ρ (es.map (·.2)) (ents.map (·.val))->∃c3,(Instr.findAsking j d ents i).run P w= .ok c3 w/\q2 ρ r c3
 |[],ents,i,r,h,a,c=>by
  simp[n8]at h;subst h;have:ents=[]:=by
   have:=a.length;simp at this;exact List.eq_nil_of_length_eq_zero this.symm
  subst this;exact⟨Z,rfl,.none⟩
 |e::es,[],i,r,h,a,c=>by have:=a.length;simp at this
 |e::es,m::ents,i,r,h,a,c=>by
  simp only[List.map_cons]at a c;cases a with|cons _ _ _ _ aQ n=>
  cases c with|cons _ _ _ _ a2 o=>
  unfold n8 at h;unfold Instr.findAsking;split at h
  ·rename_i aB;simp only[aS]at h;subst h;have he:(Op.equal j d m.key).run P w= .ok X w:=rp (ρ:=ρ) w _ _ _ _ _ _ _ aB l aQ;exact⟨_,by simp[he],.some i _ _ a2⟩
  ·rename_i aB;have he:(Op.equal j d m.key).run P w= .ok U w:=rp (ρ:=ρ) w _ _ _ _ _ _ _ aB l aQ;obtain⟨c3,p,q⟩:=y0 l w es ents (i+1) r h n o;exact⟨c3,by simp[he,p],q⟩
  ·cases h
def Jx{n:Nat}{e:TypeId}{a:Value}:∀(ents:List MapEntry) (i:Nat),Instr.findNow (.array n e) a ents i=match ents with|[]=>D Z|_=>Z
 |[],_=>rfl
 |m::_,i=>by cases a<;>rfl
def wk{a:TypeId}{d:TypeDesc}{k:ad}{i:Value}(hu:P.underlying a=D d)(aC:qa P d k=X)(p:bj ρ k i)(w:World){es:List (ad×ad)}{ents:List MapEntry}{r:Option (Nat×ad)}(h:n8 P a k es 0=D r)
  (j:bB ρ (es.map (·.1)) (ents.map (·.key))) (l:bB ρ (es.map (·.2)) (ents.map (·.val))):∃c3,(Instr.findKey a i ents).run P w= .ok c3 w/\q2 ρ r c3:=by
 obtain⟨n,e,rfl⟩:∃n e,d= .array n e:=by
  unfold qa at aC;split at aC
  ·exact⟨_,_,rfl⟩
  ·cases aC
 obtain⟨c3,c,o⟩:=y0 (P:=P) p w es ents 0 r h j l;refine⟨c3,?_,o⟩;unfold Instr.findKey;simp only[Sem.run_bind,run_underlying hu,Result.andThen_ok,Jx];cases ents with
 |nil=>exact c
 |cons m ents=>exact c
def sZ(P:Program)(H:ae)(t:TypeId)(x k:ad)(a:Bool):Option ad:=
 match P.underlying t with
 |some (.map c e)=>
  (match P.underlying c,eU P e with
  |some d,D z=>
   if plainKey d=X then
    (match(match x with| .hY=>D []| .map l=>(match H.get l with|some (.map es)=>D es|_=>Z)|_=>Z)with
    |some es=>
     (match pF d k es 0 with
     |some (D (_,v))=>D (if a then .tuple [v,.bool X]else v)
     |some Z=>D (if a then .tuple [z,.bool U]else z)
     |none=>Z)
    |none=>Z)
   else if qa P d k=X then
    (match(match x with| .hY=>D []| .map l=>(match H.get l with|some (.map es)=>D es|_=>Z)|_=>Z)with
    |some es=>
     (match n8 P c k es 0 with
     |some (D (_,v))=>D (if a then .tuple [v,.bool X]else v)
     |some Z=>D (if a then .tuple [z,.bool U]else z)
     |none=>Z)
    |none=>Z)
   else Z
  |_,_=>Z)
 |_=>Z
def H_(R:Rel ρ H w){t:TypeId}{x k v:ad}{L A:Value}{ok:Bool}(h:sZ P H t x k ok=D v)(K:bj ρ x L)(u:bj ρ k A):
  ∃r,(Instr.lookup t L A ok).run P w= .ok r w/\bj ρ v r:=by
 unfold sZ at h;split at h
 ·rename_i V aa hu;split at h
  ·rename_i d z j S;split at h
   ·rename_i aC;split at h
    ·rename_i es a;obtain⟨s,G,F⟩:=mK S w;have M:∃ents:Array MapEntry,bB ρ (es.map (·.1)) (ents.toList.map (·.key))/\bB ρ (es.map (·.2)) (ents.toList.map (·.val))/\
       ∀c3:Option (Nat×Value),Instr.findNow d A ents.toList 0=D c3->(Instr.lookup t L A ok).run P w=
       .ok (match c3 with|some (_,v)=>(if ok then .tuple #[v,.bool X]else v)|none=>(if ok then .tuple #[s,.bool U]else s)) w:=by
      split at a
      ·cases K;simp only[aS]at a;subst a;refine⟨#[],by simpa using bB.nil,by simpa using bB.nil,λc3 q=> ?_⟩;unfold Instr.lookup;simp only[Sem.run_bind,run_underlying hu,Result.andThen_ok,Sem.run_pure];rw[s8 j aC];simp only[Result.andThen_ok,Instr.findKey,Sem.run_bind,run_underlying j,q,Sem.run_pure];cases c3 with
       |none=>simp[G]
       |some p=>obtain⟨i,v⟩:=p;simp
      ·cases K with|map l loc Q=>
       split at a
       ·rename_i es' N;simp only[aS]at a;subst a;obtain⟨ents,clock,T,O,c,e⟩:=rz (P:=P) R N Q;refine⟨ents,c,e,λc3 q=> ?_⟩;unfold Instr.lookup;simp only[Sem.run_bind,run_underlying hu,Result.andThen_ok,Sem.run_pure,O];rw[s8 j aC];simp only[Result.andThen_ok,Instr.findKey,Sem.run_bind,run_underlying j,q,Sem.run_pure];cases c3 with
        |none=>simp[G]
        |some p=>obtain⟨i,v⟩:=p;simp
       ·cases a
      ·cases a
     obtain⟨ents,c,e,B⟩:=M;split at h
     ·rename_i i W o;simp only[aS]at h;subst h;obtain⟨c3,m,n,_⟩:=ra u es ents.toList 0 _ o c e;cases n with|some _ _ y E=>
      refine⟨_,B _ m,?_⟩;cases ok
      ·exact E
      ·exact .tuple _ [y,.bool X] (.cons _ _ _ _ E (.cons _ _ _ _ (.bool _) .nil))
     ·rename_i o;simp only[aS]at h;subst h;obtain⟨c3,m,n,_⟩:=ra u es ents.toList 0 _ o c e;cases n;refine⟨_,B _ m,?_⟩;cases ok
      ·exact F ρ
      ·exact .tuple _ [s,.bool U] (.cons _ _ _ _ (F ρ) (.cons _ _ _ _ (.bool _) .nil))
     ·cases h
    ·cases h
   ·split at h
    ·rename_i aC;split at h
     ·rename_i es a;obtain⟨s,G,F⟩:=mK S w;have M:∃ents:Array MapEntry,bB ρ (es.map (·.1)) (ents.toList.map (·.key))/\bB ρ (es.map (·.2)) (ents.toList.map (·.val))/\
        ∀c3:Option (Nat×Value),(Instr.findKey V A ents.toList).run P w= .ok c3 w->(Instr.lookup t L A ok).run P w=
        .ok (match c3 with|some (_,v)=>(if ok then .tuple #[v,.bool X]else v)|none=>(if ok then .tuple #[s,.bool U]else s)) w:=by
       split at a
       ·cases K;simp only[aS]at a;subst a;refine⟨#[],by simpa using bB.nil,by simpa using bB.nil,λc3 q=> ?_⟩;unfold Instr.lookup;simp only[Sem.run_bind,run_underlying hu,Result.andThen_ok,Sem.run_pure];rw[v_ j aC u];simp only[Result.andThen_ok,q];cases c3 with
        |none=>simp[G]
        |some p=>obtain⟨i,v⟩:=p;simp
       ·cases K with|map l loc Q=>
        split at a
        ·rename_i es' N;simp only[aS]at a;subst a;obtain⟨ents,clock,T,O,c,e⟩:=rz (P:=P) R N Q;refine⟨ents,c,e,λc3 q=> ?_⟩;unfold Instr.lookup;simp only[Sem.run_bind,run_underlying hu,Result.andThen_ok,Sem.run_pure,O];rw[v_ j aC u];simp only[Result.andThen_ok,q];cases c3 with
         |none=>simp[G]
         |some p=>obtain⟨i,v⟩:=p;simp
        ·cases a
       ·cases a
      obtain⟨ents,c,e,B⟩:=M;split at h
      ·rename_i i W o;simp only[aS]at h;subst h;obtain⟨c3,m,n⟩:=wk j aC u w o c e;cases n with|some _ _ y E=>
       refine⟨_,B _ m,?_⟩;cases ok
       ·exact E
       ·exact .tuple _ [y,.bool X] (.cons _ _ _ _ E (.cons _ _ _ _ (.bool _) .nil))
      ·rename_i o;simp only[aS]at h;subst h;obtain⟨c3,m,n⟩:=wk j aC u w o c e;cases n;refine⟨_,B _ m,?_⟩;cases ok
       ·exact F ρ
       ·exact .tuple _ [s,.bool U] (.cons _ _ _ _ (F ρ) (.cons _ _ _ _ (.bool _) .nil))
      ·cases h
     ·cases h
    ·cases h
  ·cases h
 ·cases h
def vM(H:ae):ad×ae:=(.map H.next,H.push (.map []))
def Ia(d:Rel ρ H w)(e:ρ H.next=Z)(t:TypeId):∃r a c,(Instr.makeMap t Z).run P w= .ok r a/\bj c (vM H).1 r/\Step ρ H w c (vM H).2 a:=by
 have aB:=EA d e (.map []) rfl (.map #[] 0) ⟨w.heap.size,0,0,0⟩ rfl (λ_ _ _ h=>by cases h) (λes h=>by
  simp only[bW.map.injEq]at h;subst h;exact⟨#[],0,heap_alloc_new _ _,by simpa using bB.nil,by simpa using bB.nil⟩) (λ_ _ _ h=>by cases h)
 refine⟨.map (D w.heap.size),_,_,?_,.map H.next ⟨w.heap.size,0,0,0⟩ (Env.ht _ _ _),aB⟩;simp[Instr.makeMap]
def x4(i:Rel ρ H w){l:Nat}{es es':List (ad×ad)}(j:H.get l=D (.map es)){loc:Loc}(p:ρ l=D loc){ents:Array MapEntry}{clock:Nat}
  (m:bB ρ (es'.map (·.1)) (ents.toList.map (·.key))) (n:bB ρ (es'.map (·.2)) (ents.toList.map (·.val))):
  Step ρ H w ρ (H.set l (.map es')) {w with heap:=w.heap.setIfInBounds loc.block (.map ents clock)}:=by
 have s:=ae.aV j;obtain⟨c,d,ag,af,M,_,_⟩:=i.map _ _ j;obtain rfl:loc=c:=Option.some.inj (p.symm.trans d);have N:=jJ M;have q:∀k,k≠loc.block->({w with heap:=w.heap.setIfInBounds loc.block (.map ents clock)}:World).heap[k]? =w.heap[k]? :=λk O=>by
  show(w.heap.setIfInBounds loc.block _)[k]? =_;rw[Array.getElem?_setIfInBounds,if_neg (Ne.symm O)]
 have o:∀l' c,H.live l'->l'≠l->ρ l'=D c->c.block≠loc.block:=λl' c h a1 e heq=>
  i.apart l l' loc c (.inr (.inl ⟨_,j⟩)) h (Ne.symm a1) p e heq.symm
 have x:∀l',(H.set l (.map es')).rw l'->H.rw l':=by
  intro l' h;by_cases a:l=l'
  ·subst a;exact .inr (.inl ⟨_,j⟩)
  ·simpa [ae.rw,ae.get_set_other a]using h
 have P:∀l',(H.set l (.map es')).live l'->H.live l':=by
  intro l' h;by_cases a:l=l'
  ·subst a;exact .inr (.inl ⟨_,j⟩)
  ·simpa [ae.live,ae.get_set_other a]using h
 refine⟨ρ.le_refl,bm _,λ_ _=>rfl,⟨?_,?_,?_,?_⟩,rfl,rfl,rfl,by simp,?_,?_,ae.E6 rfl⟩
 ·intro l' ai G E h;by_cases a:l=l'
  ·subst a;rw[ae.get_set_same s]at h;cases h
  ·rw[ae.get_set_other a]at h;obtain⟨c,d,aa,c',y,K,u,v,ab⟩:=i.row _ _ _ _ h;exact⟨c,d,aa,c',y,K,by rw[q _ (o l' c (.inl ⟨_,_,_,h⟩) (Ne.symm a) d)];exact u,v,ab⟩
 ·intro l' ah h;by_cases a:l=l'
  ·subst a;rw[ae.get_set_same s]at h;simp only[aS,bW.map.injEq]at h;subst h;refine⟨loc,p,ents,clock,?_,m,n⟩;show(w.heap.setIfInBounds loc.block _)[loc.block]? =_;rw[Array.getElem?_setIfInBounds,if_pos rfl,if_pos N]
  ·rw[ae.get_set_other a]at h;obtain⟨c,d,F,z,u,v⟩:=i.map _ _ h;exact⟨c,d,F,z,by rw[q _ (o l' c (.inr (.inl ⟨_,h⟩)) (Ne.symm a) d)];exact u,v⟩
 ·intro l' y G E h;by_cases a:l=l'
  ·subst a;rw[ae.get_set_same s]at h;cases h
  ·rw[ae.get_set_other a]at h;obtain⟨c,d,R⟩:=i.b0 _ _ _ _ h;exact⟨c,d,R.frame ρ.le_refl (q _ (o l' c (.inr (.inr ⟨_,_,_,h⟩)) (Ne.symm a) d))⟩
 ·intro S T V W m n o A B;exact i.apart S T V W (x _ m) (P _ n) o A B
 ·intro b _ Q;refine q b ?_;rintro rfl;exact Q ⟨l,loc,.inr (.inl ⟨_,j⟩),p,rfl⟩
 ·rintro b ⟨l',c,m,n,L⟩;exact .inl ⟨l',c,x _ m,n,L⟩
def pG(P:Program)(H:ae)(t:TypeId)(m k v:ad):Option ae:=
 match P.underlying t,m with
 |some (.map a _),.map l=>
  (match P.underlying a,H.get l with
  |some d,D (.map es)=>
   if plainKey d=X then
    (match pF d k es 0 with
    |some (D (i,_))=>D (H.set l (.map (es.set i (k,v))))
    |some Z=>D (H.set l (.map (es++[(k,v)])))
    |none=>Z)
   else if qa P d k=X then
    (match n8 P a k es 0 with
    |some Z=>D (H.set l (.map (es++[(k,v)])))
    |_=>Z)
   else Z
  |_,_=>Z)
 |_,_=>Z
def O8{d:TypeDesc}{a b:ad}{b4 cy:Value}(h:pY d a b=D X)(c:bj ρ a b4)(e:bj ρ b cy)(n:Nat):Instr.sameBits (n+1) cy b4=true:=by
 unfold pY at h;split at h
 ·cases c;cases e;split at h
  ·rename_i i;subst i;simp at h;subst h;simp[Instr.sameBits]
  ·cases h
 ·cases c;cases e;simp at h;subst h;simp[Instr.sameBits,x_]
 ·cases c;cases e;simp at h;subst h;simp[Instr.sameBits]
 ·cases h
def KX(es:List (ad×ad))(i:Nat)(k v:ad):(es.set i (k,v)).map (·.1)=(es.map (·.1)).set i k:=by simp[List.map_set]
def KY(es:List (ad×ad))(i:Nat)(k v:ad):(es.set i (k,v)).map (·.2)=(es.map (·.2)).set i v:=by simp[List.map_set]
def y5(z:Rel ρ H w){t:TypeId}{m k v:ad}{m' a c:Value}{H':ae}(h:pG P H t m k v=D H')(hm:bj ρ m m')(q:bj ρ k a)(O:bj ρ v c):
  ∃T,(Instr.mapUpdate t m' a c).run P w= .ok () T/\Step ρ H w ρ H' T:=by
 unfold pG at h;split at h
 ·rename_i ak ai l hu;cases hm with|map _ loc F=>
  split at h
  ·rename_i d es G B;split at h
   ·rename_i aC;obtain⟨ents,clock,M,N,n,s⟩:=rz (P:=P) z B F;have L:∀o:Obj,(setObj loc.block o).run P w= .ok () {w with heap:=w.heap.setIfInBounds loc.block o}:=λo=>by simp[setObj,Sem.run,M]
    have R:∀c3,Instr.findNow d a ents.toList 0=D c3->(Instr.mapUpdate t (.map (D loc.block)) a c).run P w=
      (match c3 with
       |some (i,_)=>(do
        let key<-Instr.keyThatStays (((ents[i]?).map (·.key)).getD a) a
        setObj loc.block (.map (ents.modify i λe=>{e with key,val:=c}) clock):Sem Unit).run P w
       |none=>(setObj loc.block (.map (ents.push {key:=a,val:=c,born:=clock}) (clock+1))).run P w):=by
     intro c3 ag;unfold Instr.mapUpdate;simp only[Sem.run_bind,run_underlying hu,Result.andThen_ok,N];rw[s8 G aC];simp only[Result.andThen_ok,Instr.findKey,Sem.run_bind,run_underlying G,ag,Sem.run_pure];cases c3 with
     |none=>rfl
     |some p=>obtain⟨i,v⟩:=p;simp only[Sem.run_bind]
    split at h
    ·rename_i i v0 A;simp only[aS]at h;subst h;obtain⟨c3,u,x,Q⟩:=ra q es ents.toList 0 _ A n s;cases x with|some _ _ y aj=>
     obtain⟨_,V,e,he,aB⟩:=Q i v0 rfl;simp only[Nat.sub_zero,Nat.zero_add]at he V;have hlen:=n.length;simp only[List.length_map,Array.length_toList]at hlen;have K:i<ents.size:=af;obtain⟨S,W,ab⟩:=n.get i e.1 (by simp[he]);have aa:ents[i].key=S:=by simpa [K]using W
     have ah:(Instr.keyThatStays (((ents[i]?).map (·.key)).getD a) a).run P w= .ok a w:=by
      unfold Instr.keyThatStays;have:((ents[i]?).map (·.key)).getD a=S:=by simp[K,aa]
      rw[this,if_pos (O8 aB q ab 9999)];rfl
     refine⟨_,?_,x4 z B F (es':=es.set i (k,v)) (ents:=ents.modify i λe=>{e with key:=a,val:=c}) (clock:=clock) ?_ ?_⟩
     ·rw[R _ u];simp only[Sem.run_bind,ah,Result.andThen_ok];exact L _
     ·rw[KX];have:(ents.modify i λe=>{e with key:=a,val:=c}).toList.map (·.key)=(ents.toList.map (·.key)).set i a:=by
       apply List.ext_getElem?;intro j;by_cases E:i=j
       ·subst E;simp[K]
       ·simp[E]
      rw[this];exact n.set q i
     ·rw[KY];have:(ents.modify i λe=>{e with key:=a,val:=c}).toList.map (·.val)=(ents.toList.map (·.val)).set i c:=by
       apply List.ext_getElem?;intro j;by_cases E:i=j
       ·subst E;simp[K]
       ·simp[E]
      rw[this];exact s.set O i
    ·rename_i A;simp only[aS]at h;subst h;obtain⟨c3,u,x,Q⟩:=ra q es ents.toList 0 _ A n s;cases x;refine⟨_,?_,x4 z B F (es':=es++[(k,v)]) (ents:=ents.push {key:=a,val:=c,born:=clock}) (clock:=clock+1) ?_ ?_⟩
     ·rw[R _ u];exact L _
     ·simpa using n.append (.cons _ _ _ _ q .nil)
     ·simpa using s.append (.cons _ _ _ _ O .nil)
    ·cases h
   ·split at h
    ·rename_i aC;obtain⟨ents,clock,M,N,n,s⟩:=rz (P:=P) z B F;have L:∀o:Obj,(setObj loc.block o).run P w= .ok () {w with heap:=w.heap.setIfInBounds loc.block o}:=λo=>by simp[setObj,Sem.run,M]
     split at h
     ·rename_i A;simp only[aS]at h;subst h;obtain⟨c3,u,x⟩:=wk G aC q w A n s;cases x;refine⟨_,?_,x4 z B F (es':=es++[(k,v)]) (ents:=ents.push {key:=a,val:=c,born:=clock}) (clock:=clock+1) ?_ ?_⟩
      ·unfold Instr.mapUpdate;simp only[Sem.run_bind,run_underlying hu,Result.andThen_ok,N];rw[v_ G aC q];simp only[Result.andThen_ok,u];exact L _
      ·simpa using n.append (.cons _ _ _ _ q .nil)
      ·simpa using s.append (.cons _ _ _ _ O .nil)
     ·cases h
    ·cases h
  ·cases h
 ·cases h
