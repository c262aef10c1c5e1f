/-
  Texts of one proof, laid together: Hv7 Hv8 Hv9.
-/
import Derived.Test.YtmhhnnklfcbgfaaGreatMA
import Derived.Deep.AppendSrc
set_option linter.unusedVariables false
set_option linter.unusedSimpArgs false
set_option linter.defProp false
open Option renaming some→D,none→I
open Bool renaming true→C,false→Z
namespace Go.bz
section
variable {P:Program}{ρ:Env}{H:ad}{w:World}
def nm(P:Program)(t:TypeId)(x:ae)(f:Nat):Option ae:=
 match P.underlying t,x with
 |some (.struct fs),.agg cs=>(match fs[f]? with|some d=>apart P d.type cs d.offset|none=>I)
 |_,_=>I
def NA{t:TypeId}{x v:ae}{a:Value}{f:Nat}(h:nm P t x f=D v)(aA:bp ρ x a)(w:World):∃r,(Instr.field t a f).run P w= .ok r w/\bp ρ v r:=by
 unfold nm at h;split at h
 ·rename_i fs cs hu;cases aA with|agg _ xs aq=>
  split at h
  ·rename_i d b;obtain⟨r,af,ah⟩:=nr h aq w;exact⟨r,by simp[Instr.field,run_underlying hu,b,asAgg,af],ah⟩
  ·cases h
 ·cases h
def bN(P:Program)(t:TypeId)(x:ae)(f:Nat):Option ae:=
 match P.underlying t,x with
 |some (.struct fs),.ptr l i c=>(match fs[f]? with|some d=>(match cp P d.type with|some n=>if n=0 then I else D (.ptr l i (c+d.offset))|none=>I)|none=>I)
 |_,_=>I
def Nz{t:TypeId}{x v:ae}{a:Value}{f:Nat}(h:bN P t x f=D v)(aA:bp ρ x a)(w:World):∃r,(Instr.fieldAt t a f).run P w= .ok r w/\bp ρ v r:=by
 unfold bN at h;split at h
 ·rename_i fs l i c hu;cases aA with|ptr _ _ _ loc al=>
  split at h
  ·rename_i d e;split at h
   ·rename_i n aH;split at h
    ·cases h
    ·rename_i b;simp only[bb]at h;subst h;refine⟨_,?_,.ptr l i (c+d.offset) loc al⟩;simp[Instr.fieldAt,run_underlying hu,e,Instr.sureAddr,fieldPlace,run_sizeOf aH,b,lY,Nat.add_assoc]
   ·cases h
  ·cases h
 ·cases h
def cm(P:Program)(t:TypeId)(x b:ae):Option ae:=
 match P.underlying t,x,b with
 |some (.slice e),.aD l i n esz _,.int _ k=>(match cp P e with|some a=>if a=esz/\0<=k/\k<n then D (.ptr l (i+k.toNat) 0)else I|none=>I)
 |some (.array len e),.ptr l i c,.int _ k=>(match cp P e with|some a=>if 0<=k/\k<len then D (.ptr l i (c+k.toNat*a))else I|none=>I)
 |_,_,_=>I
def NC{t:TypeId}{x j v:ae}{p m:Value}(h:cm P t x j=D v)(aA:bp ρ x p)(g:bp ρ j m)(w:World):∃r,(Instr.indexAt t p m).run P w= .ok r w/\bp ρ v r:=by
 unfold cm at h;split at h
 ·rename_i e l i n esz cap cr k hu;cases g;cases aA with|aD _ _ _ _ loc a c al aH aq q=>
  split at h
  ·rename_i o f;split at h
   ·rename_i d;obtain⟨rfl,b,af⟩:=d;simp only[bb]at h;subst h;obtain⟨rfl,_⟩:=q aa;refine⟨_,?_,.ptr l (i+k.toNat) 0 loc al⟩;have s:loc.off+i*loc.esz+k.toNat*loc.esz=loc.off+(i+k.toNat)*loc.esz+0:=by rw[Nat.add_mul];omega
    simp[Instr.indexAt,asIntOf,run_underlying hu,b,af,run_sizeOf f,lY]
   ·cases h
  ·cases h
 ·rename_i len e l i c cr k hu;cases g;cases aA with|ptr _ _ _ loc al=>
  split at h
  ·rename_i o f;split at h
   ·rename_i d;obtain⟨b,af⟩:=d;simp only[bb]at h;subst h;refine⟨_,?_,.ptr l i (c+k.toNat*o) loc al⟩;simp[Instr.indexAt,asIntOf,run_underlying hu,Instr.sureAddr,b,af,run_sizeOf f,lY,Nat.add_assoc]
   ·cases h
  ·cases h
 ·cases h
def ou(P:Program)(t:TypeId)(x a:ae):Option ae:=
 match P.underlying t,x,a with
 |some .string,.str s,.int _ k=>if 0<=k then(match s[k.toNat]? with|some b=>D (.int .u8 b.toNat)|none=>I)else I
 |some (.array len e),.agg cs,.int _ k=>(match cp P e with|some c=>if 0<=k/\k<len then apart P e cs (k.toNat*c)else I|none=>I)
 |_,_,_=>I
def OZ(s:List UInt8)(k:Nat):(⟨s.toArray⟩:ByteArray)[k]? =s[k]? :=by
 simp only[getElem?,decidableGetElem?];by_cases h:k<s.length
 ·have bY:k<(⟨s.toArray⟩:ByteArray).size:=by show k<s.toArray.size;simpa using h
  simp[h,bY];rfl
 ·have bY:¬k<(⟨s.toArray⟩:ByteArray).size:=by show¬k<s.toArray.size;simpa using h
  simp[h,bY]
def ND{t:TypeId}{x c v:ae}{f d:Value}(h:ou P t x c=D v)(aA:bp ρ x f)(a:bp ρ c d)(w:World):∃r,(Instr.index t f d).run P w= .ok r w/\bp ρ v r:=by
 unfold ou at h;split at h
 ·rename_i s cr k hu;cases a;cases aA;split at h
  ·rename_i g;split at h
   ·rename_i b i;simp only[bb]at h;subst h;refine⟨_,?_,.int _ _⟩;simp only[Instr.index,asIntOf,Sem.run_bind,Sem.run_pure,Result.andThen_ok,run_underlying hu,if_pos g,OZ,i]
   ·cases h
  ·cases h
 ·rename_i len e cs cr k hu;cases a;cases aA with|agg _ xs aq=>
  split at h
  ·rename_i m l;split at h
   ·rename_i j;obtain⟨r,af,ah⟩:=nr h aq w;exact⟨r,by simp[Instr.index,asIntOf,run_underlying hu,j,run_sizeOf l,af],ah⟩
   ·cases h
  ·cases h
 ·cases h
def eg(x:Option ae)(a y:Nat):Option Nat:=
 match x with
 |none=>D a
 |some (.int _ k)=>if 0<=k/\k<=y then D k.toNat else I
 |some _=>I
def hD(P:Program)(t:TypeId)(x:ae)(fZ a b:Option ae):Option ae:=
 match P.underlying t,x with
 |some .string,.str s=>
  (match b,eg a s.length s.length with
  |none,D h=>(match eg fZ 0 h with|some l=>D (.str ((s.drop l).take (h-l)))|none=>I)
  |_,_=>I)
 |some (.slice e),.aD l i n esz cap=>
  (match cp P e,b with
  |some c,I=>
   if c=esz then
    (match eg a n (cap.getD n)with
    |some h=>(match eg fZ 0 h with|some k=>D (.aD l (i+k) (h-k) esz (cap.map (· -k)))|none=>I)
    |none=>I)
   else I
  |some c,D m=>
   if c=esz then
    (match eg (D m) 0 (cap.getD n)with
    |some m=>(match a,eg a 0 m with
     |some _,D h=>(match eg fZ 0 h with|some k=>D (.aD l (i+k) (h-k) esz (D (m-k)))|none=>I)
     |_,_=>I)
    |none=>I)
   else I
  |_,_=>I)
 |some (.slice e),.aB=>
  (match cp P e,b with
  |some _,I=>(match eg a 0 0 with
   |some h=>(match eg fZ 0 h with|some _=>D .aB|none=>I)
   |none=>I)
  |some _,D m=>(match eg (D m) 0 0 with
   |some m=>(match a,eg a 0 m with
    |some _,D h=>(match eg fZ 0 h with|some _=>D .aB|none=>I)
    |_,_=>I)
   |none=>I)
  |_,_=>I)
 |_,_=>I
inductive pG(ρ:Env):Option ae->Option Value->Prop where
 |none:pG ρ none none
 |some (v:ae) (x:Value) (h:bp ρ v x):pG ρ (some v) (some x)
def g8{v:ae}{x:Value}{d y k:Nat}(h:eg (D v) d y=D k)(aA:bp ρ v x)(code:BoundsCode){b:Nat}(c:y<=b)(w:World):
  (Instr.sliceBound x b code).run P w= .ok k w/\k<=y:=by
 unfold eg at h;split at h
 ·rename_i a;cases a
 ·rename_i cr n a;cases a;cases aA;split at h
  ·rename_i aq;simp only[bb]at h;subst h;refine⟨?_,aa⟩;simp only[Instr.sliceBound,asIntOf,Sem.run_bind,Sem.run_pure,Result.andThen_ok];rw[if_pos aa];exact Sem.run_pure ..
  ·cases h
 ·cases h
def Qr(s:List UInt8)(l h:Nat):(⟨s.toArray⟩:ByteArray).extract l h=⟨((s.drop l).take (h-l)).toArray⟩:=by
 apply ByteArray.ext;simp[ByteArray.data_extract,List.extract_eq_take_drop]
def Ol{t:TypeId}{x v:ae}{W:Value}{fZ T V:Option ae}{y E z:Option Value}(h:hD P t x fZ T V=D v)(aA:bp ρ x W)(j:pG ρ fZ y)(u:pG ρ T E)(G:pG ρ V z)(w:World):
  ∃r,(Instr.sliceAt t W y E z).run P w= .ok r w/\bp ρ v r:=by
 unfold hD at h;split at h
 ·rename_i s hu;cases aA;have p:(⟨s.toArray⟩:ByteArray).size=s.length:=by show s.toArray.size=_;simp
  split at h
  ·rename_i g f;cases G;split at h
   ·rename_i l al;simp only[bb]at h;subst h;refine⟨_,?_,.str _⟩;have o:∃m,(Instr.sliceBounds Z s.length s.length y E I).run P w= .ok (l,g,m) w:=by
     refine⟨s.length,?_⟩;cases u with
     |none=>
      simp only[eg,bb]at f;subst f;cases j with
      |none=>simp only[eg,bb]at al;subst al;simp[Instr.sliceBounds]
      |some v x b=>simp[Instr.sliceBounds,(g8 al b _ (bC _) w).1]
     |some v x b=>
      have:=(g8 (P:=P) f b .sliceAlen (bC _) w).1;cases j with
      |none=>simp only[eg,bb]at al;subst al;simp[Instr.sliceBounds,this]
      |some v x b=>simp[Instr.sliceBounds,this,(g8 al b _ (bC _) w).1]
    obtain⟨m,o⟩:=o;simp[Instr.sliceAt,Instr.slice,run_underlying hu,p,o,Qr]
   ·cases h
  ·cases h
 ·rename_i e l i n esz cap hu;cases aA with|aD _ _ _ _ loc a c al aH aq S=>
  have L:cap.getD n<=c:=by
   cases B:cap with
   |none=>exact aH
   |some k=>have:=aq k B;simp;omega
  split at h
  ·rename_i R p;cases G;split at h
   ·rename_i O;subst O;split at h
    ·rename_i g f;split at h
     ·rename_i k d;simp only[bb]at h;subst h;have am:g<=c:=by
       cases u with
       |none=>simp only[eg,bb]at f;omega
       |some v x b=>have:=(g8 (P:=P) f b .sliceAcap L w).2;omega
      have U:k<=g:=by
       cases j with
       |none=>simp only[eg,bb]at d;omega
       |some v x b=>exact(g8 (P:=P) d b .sliceB (bC _) w).2
      have o:(Instr.sliceBounds C n c y E I).run P w= .ok (k,g,c) w:=by
       cases u with
       |none=>
        simp only[eg,bb]at f;subst f;cases j with
        |none=>simp only[eg,bb]at d;subst d;simp[Instr.sliceBounds]
        |some v x b=>simp[Instr.sliceBounds,(g8 d b _ (bC _) w).1]
       |some v x b=>
        have:=(g8 (P:=P) f b .sliceAcap L w).1;cases j with
        |none=>simp only[eg,bb]at d;subst d;simp[Instr.sliceBounds,this]
        |some v x b=>simp[Instr.sliceBounds,this,(g8 d b _ (bC _) w).1]
      refine⟨.slice (D (if c=k then a else a.add (k*loc.esz))) (g-k) (c-k),?_,?_⟩
      ·simp[Instr.sliceAt,Instr.slice,run_underlying hu,o,run_sizeOf p];split<;>rfl
      ·refine .aD l (i+k) (g-k) _ loc _ (c-k) al aa (λm hm=> ?_) (λaj=> ?_)
       ·cases B:cap with
        |none=>rw[B]at hm;cases hm
        |some q=>rw[B]at hm;simp at hm;have:=aq q B;omega
       ·obtain⟨rfl,M⟩:=S aa;rw[if_neg aa,lY];refine⟨?_,?_⟩
        ·congr 1;rw[Nat.add_mul];omega
        ·rw[show i+k+(c-k)=i+c by omega];exact M
     ·cases h
    ·cases h
   ·cases h
  ·rename_i R ak p;cases G with|some _ z N=>
   split at h
   ·rename_i O;subst O;split at h
    ·rename_i m hm;obtain⟨K,ai⟩:=g8 (P:=P) hm N .slice3Acap L w;split at h
     ·rename_i b g f;cases u with|some _ x Q=>
      obtain⟨H,ad⟩:=g8 (P:=P) f Q .slice3B (bC _) w;split at h
      ·rename_i k d;simp only[bb]at h;subst h;have U:k<=g:=by
        cases j with
        |none=>simp only[eg,bb]at d;omega
        |some v x b=>exact(g8 (P:=P) d b .sliceB (bC _) w).2
       have o:(Instr.sliceBounds C n c y (D x) (D z)).run P w= .ok (k,g,m) w:=by
        cases j with
        |none=>simp only[eg,bb]at d;subst d;simp[Instr.sliceBounds,K,H]
        |some v x b=>simp[Instr.sliceBounds,K,H,(g8 d b _ (bC _) w).1]
       refine⟨.slice (D (if m=k then a else a.add (k*loc.esz))) (g-k) (m-k),?_,?_⟩
       ·simp[Instr.sliceAt,Instr.slice,run_underlying hu,o,run_sizeOf p];split<;>rfl
       ·refine .aD l (i+k) (g-k) _ loc _ (m-k) al aa (λq aN=>by simpa using aN) (λaj=> ?_);obtain⟨rfl,M⟩:=S aa;rw[if_neg aa,lY];refine⟨?_,?_⟩
        ·congr 1;rw[Nat.add_mul];omega
        ·refine Nat.le_trans (Nat.add_le_add_left (Nat.mul_le_mul_right _ ?_) _) M;omega
      ·cases h
     ·cases h
    ·cases h
   ·cases h
  ·cases h
 ·rename_i e hu;cases aA;split at h
  ·rename_i R p;cases G;split at h
   ·rename_i g f;split at h
    ·rename_i k d;simp only[bb]at h;subst h;have Y:g=0:=by
      cases u with
      |none=>simp only[eg,bb]at f;omega
      |some v x b=>have:=(g8 (P:=P) f b .sliceAcap (bC _) w).2;omega
     subst Y;have af:k=0:=by
      cases j with
      |none=>simp only[eg,bb]at d;omega
      |some v x b=>have:=(g8 (P:=P) d b .sliceB (bC _) w).2;omega
     subst af;refine⟨.slice I 0 0,?_,.aB⟩;have o:(Instr.sliceBounds C 0 0 y E I).run P w= .ok (0,0,0) w:=by
      cases u with
      |none=>
       cases j with
       |none=>simp[Instr.sliceBounds]
       |some v x b=>simp[Instr.sliceBounds,(g8 d b _ (bC _) w).1]
      |some v x b=>
       have:=(g8 (P:=P) f b .sliceAcap (bC _) w).1;cases j with
       |none=>simp[Instr.sliceBounds,this]
       |some v x b=>simp[Instr.sliceBounds,this,(g8 d b _ (bC _) w).1]
     simp[Instr.sliceAt,Instr.slice,run_underlying hu,o,run_sizeOf p]
    ·cases h
   ·cases h
  ·rename_i R ak p;cases G with|some _ z N=>
   split at h
   ·rename_i m hm;obtain⟨K,ai⟩:=g8 (P:=P) hm N .slice3Acap (bC _) w;split at h
    ·rename_i b g f;cases u with|some _ x Q=>
     obtain⟨H,ad⟩:=g8 (P:=P) f Q .slice3B (bC _) w;split at h
     ·rename_i k d;simp only[bb]at h;subst h;have U:k<=g:=by
       cases j with
       |none=>simp only[eg,bb]at d;omega
       |some v x b=>exact(g8 (P:=P) d b .sliceB (bC _) w).2
      have ah:m=0:=aa;have ab:g=0:=aa;have ag:k=0:=aa;subst ah;subst ab;subst ag;have o:(Instr.sliceBounds C 0 0 y (D x) (D z)).run P w= .ok (0,0,0) w:=by
       cases j with
       |none=>simp[Instr.sliceBounds,K,H]
       |some v x b=>simp[Instr.sliceBounds,K,H,(g8 d b _ (bC _) w).1]
      exact⟨.slice I 0 0,by simp[Instr.sliceAt,Instr.slice,run_underlying hu,o,run_sizeOf p],.aB⟩
     ·cases h
    ·cases h
   ·cases h
  ·cases h
 ·cases h
end
section
variable {P:Program}{ρ:Env}{H:ad}{w:World}
def FQ(c:Array Value):∀(d:List ae) (o:Nat),(∀(j:Nat) (v:ae),d[j]? =D v->v.one=C/\∃x,c[o+j]? =D x/\bp ρ v x)->
  ∃xs:List Value,bO ρ d xs/\(∀j u,xs[j]? =D u->c[o+j]? =D u)/\∀u∈xs,u.oneCell'=C
 |[],_,_=>⟨[],.nil,λj u h=>by simp at h,λu h=>by cases h⟩
 |v::d,o,h=>by
  obtain⟨af,x,aA,b⟩:=h 0 v rfl;obtain⟨xs,e,f,g⟩:=FQ c d (o+1) (λj u a=>by have:=h (j+1) u (by simpa using a);rwa[show o+(j+1)=o+1+j by omega]at this);refine⟨x::xs,.cons _ _ _ _ b e,?_,?_⟩
  ·intro j u a;cases j with
   |zero=>simp at a;subst a;exact aA
   |succ j=>rw[show o+(j+1)=o+1+j by omega];exact f j u (by simpa using a)
  ·intro u hu;rcases List.mem_cons.1 hu with rfl|hu
   ·exact b.Bg af
   ·exact g u hu
def Kt(c:Array Value)(esz:Nat):∀(els:List (List ae)) (o:Nat),(∀(i:Nat) (e:List ae),els[i]? =D e->e.length=esz/\∀(j:Nat) (v:ae),e[j]? =D v->v.one=C/\∃x,c[o+i*esz+j]? =D x/\bp ρ v x)->
  ∃xs:List Value,bO ρ els.flatten xs/\(∀j u,xs[j]? =D u->c[o+j]? =D u)/\∀u∈xs,u.oneCell'=C
 |[],_,_=>⟨[],by simpa using bO.nil,λj u h=>by simp at h,λu h=>by cases h⟩
 |d::els,o,h=>by
  obtain⟨p,aq⟩:=h 0 d rfl;obtain⟨b,f,g,a3⟩:=FQ c d o (λj v a=>by simpa using aq j v a);obtain⟨xs,k,l,m⟩:=Kt c esz els (o+esz) (λi e he=>by
   have:=h (i+1) e (by simpa using he);rw[Nat.succ_mul]at this;refine⟨this.1,λj v a=> ?_⟩;have:=this.2 j v a;rwa[show o+(i*esz+esz)+j=o+esz+i*esz+j by omega]at this)
  have al:=f.length;refine⟨b++xs,by simpa using f.append k,?_,?_⟩
  ·intro j u a;by_cases n:j<b.length
   ·rw[List.getElem?_append_left n]at a;exact g j u a
   ·rw[List.getElem?_append_right aa]at a;have:=l _ u a;rwa[show o+esz+(j-b.length)=o+j by omega]at this
  ·intro u hu;rcases List.mem_append.1 hu with hu|hu
   ·exact a3 u hu
   ·exact m u hu
def gN(H:ad)(l i n esz:Nat):Option (List (List ae)):=
 match H.get l with
 |some (.row _ a els)=>if a=esz/\i+n<=els.length then D ((els.drop i).take n)else I
 |some (.dz _ a els)=>if a=esz/\i+n<=els.length then D ((els.drop i).take n)else I
 |_=>I
def wk{els:List (List ae)}{i n k:Nat}{e:List ae}(h:((els.drop i).take n)[k]? =D e):els[i+k]? =D e:=by
 rw[List.getElem?_take]at h;split at h
 ·rw[List.getElem?_drop]at h;exact h
 ·cases h
def EO{ro:Bool}{i n:Nat}{loc:Loc}{g:Nat}{els a:List (List ae)}(q:fF ρ w loc ro g els)(h:(if g=loc.esz/\i+n<=els.length then D ((els.drop i).take n)else I)=D a):
  a.length=n/\(∀e∈a,e.length=loc.esz)/\(∀e∈a,∀v∈e,v.one=C)/\
  ∃xs:List Value,bO ρ a.flatten xs/\xs.length=n*loc.esz/\(∀j u,xs[j]? =D u->w.cell? ⟨loc.block,loc.off+i*loc.esz+j,I⟩=D u)/\∀u∈xs,u.oneCell'=true:=by
 ·split at h
  ·rename_i p;obtain⟨rfl,hle⟩:=p;simp only[bb]at h;subst h;obtain⟨_,c,t,s,o,_,au⟩:=q;have hlen:((els.drop i).take n).length=n:=by simp;omega
   have af:∀e∈(els.drop i).take n,e.length=loc.esz:=λe he=>by
    obtain⟨k,d⟩:=List.getElem?_of_mem he;exact(au _ e (wk d)).1
   have ah:∀e∈(els.drop i).take n,∀v∈e,v.one=true:=λe he v r=>by
    obtain⟨k,d⟩:=List.getElem?_of_mem he;obtain⟨j,b⟩:=List.getElem?_of_mem r;exact((au _ e (wk d)).2 j v b).1
   refine⟨hlen,af,ah,?_⟩;obtain⟨xs,f,l,m⟩:=Kt (ρ:=ρ) c loc.esz ((els.drop i).take n) (loc.off+i*loc.esz) (λk e d=>by
    have:=au _ e (wk d);refine⟨this.1,λj v b=> ?_⟩;have:=this.2 j v b;rwa[Nat.add_mul,<-Nat.add_assoc]at this)
   refine⟨xs,f,by rw[<-f.length,nD af,hlen],λj u b=> ?_,m⟩;simp[World.cell?,o,l j u b]
  ·cases h
def zl(f:Rel ρ H w){l i n:Nat}{loc:Loc}{a:List (List ae)}(h:gN H l i n loc.esz=D a)(al:ρ l=D loc):
  a.length=n/\(∀e∈a,e.length=loc.esz)/\(∀e∈a,∀v∈e,v.one=C)/\
  ∃xs:List Value,bO ρ a.flatten xs/\xs.length=n*loc.esz/\(∀j u,xs[j]? =D u->w.cell? ⟨loc.block,loc.off+i*loc.esz+j,I⟩=D u)/\∀u∈xs,u.oneCell'=true:=by
 unfold gN at h;split at h
 ·rename_i ro g els aP;obtain⟨d,b,c⟩:=f.row _ _ _ _ aP;obtain rfl:loc=d:=Option.some.inj (al.symm.trans b);exact EO c h
 ·rename_i t g els aP;obtain⟨d,b,c,_⟩:=f.dz _ _ _ _ aP;obtain rfl:loc=d:=Option.some.inj (al.symm.trans b);exact EO c h
 ·cases h
def jT(P:Program)(H:ad)(c:TypeId)(esz:Nat)(x:ae):Option (List (List ae)):=
 match P.underlying c,x with
 |some (.slice _),.aD l i n a _=>if a=esz then(if n=0 then D []else gN H l i n esz)else I
 |some (.slice _),.aB=>D []
 |some .string,.str s=>if esz=1 then D (s.map λb=>[.int .u8 b.toNat])else I
 |_,_=>I
def OY(s:List UInt8):bO ρ ((s.map λb=>[ae.int .u8 b.toNat]).flatten) (byteCells ⟨s.toArray⟩):=by
 unfold byteCells;show bO ρ _ (s.map _)
 induction s with
 |nil=>exact .nil
 |cons b s a=>exact .cons _ _ _ _ (.int _ _) a
def NW(r:Rel ρ H w){m:TypeId}{esz:Nat}{x:ae}{o:Value}{b:List (List ae)}(h:jT P H m esz x=D b)(aA:bp ρ x o):
  (∀e∈b,e.length=esz)/\(∀e∈b,∀v∈e,v.one=C)/\∃news:List Value,bO ρ b.flatten news/\Src P esz m o b.length news w:=by
 unfold jT at h;split at h
 ·rename_i e l i n B cap hu;split at h
  ·rename_i he;subst he;cases aA with|aD _ _ _ _ loc a c al aH aq t=>
   by_cases f:n=0
   ·subst f;simp only[if_true,bb]at h;subst h;exact⟨by simp,by simp,[],by simpa using bO.nil,Src.ofSlice w hu a 0 c [] (by simp) (λj u d=>by simp at d) (λu hu=>by cases hu)⟩
   rw[if_neg f]at h;obtain⟨af,ah,an,xs,aM,g,p,q⟩:=zl r h al;refine⟨ah,an,xs,aM,?_⟩;rw[af];refine Src.ofSlice w hu a n c xs g (λj u d=> ?_) q;have y:0<c:=by
    rcases Nat.eq_zero_or_pos c with k|k
    ·have f:n=0:=aa;rw[f]at g;have:xs=[]:=List.eq_nil_of_length_eq_zero (by simpa using g);subst this;simp at d
    ·exact k
   obtain⟨rfl,_⟩:=t y;rw[lY];exact p j u d
  ·cases h
 ·rename_i e hu;cases aA;simp only[bb]at h;subst h;exact⟨by simp,by simp,[],by simpa using bO.nil,Src.ofNil w hu 0⟩
 ·rename_i s hu;split at h
  ·rename_i he;subst he;cases aA;simp only[bb]at h;subst h;refine⟨by simp,by simp[ae.one],_,OY s,?_⟩;have:=Src.ofString w hu (⟨s.toArray⟩:ByteArray);have z:(⟨s.toArray⟩:ByteArray).size=s.length:=by show s.toArray.size=_;simp
   rw[z]at this;simpa using this
  ·cases h
 ·cases h
def kO(P:Program)(t:TypeId):Option Nat:=(P.info? t).map (·.bytes)
def rE(x:ae)(e:TypeId):Option TypeId:=match x with
 | .str _=>D e
 |_=>I
def N3{x:ae}{e:TypeId}:∀a,rE x e=D a->a=e:=by
 intro a h;unfold rE at h;split at h
 ·exact(Option.some.inj h).symm
 ·cases h
def mM(P:Program)(t:TypeId):Bool:=match P.underlying t with
 |some (.int .i64)=>C
 |_=>Z
def Tz{P:Program}{t:TypeId}(h:mM P t=C):P.underlying t=D (.int .i64):=by
 unfold mM at h;split at h
 ·assumption
 ·cases h
def uQ(P:Program)(H:ad)(e:TypeId)(s x:ae):Option (ae×ad):=
 match s,x with
 | .aB,.int .i64 (.ofNat n)=>(match cp P e,kO P e,e2 P e with
  |some esz,D hj,D z=>
   if 0<n/\z.cells.length=esz/\0<esz/\z.cells.all ae.one=C/\n*hj<=140737488355328/\n<=1125899906842624 then D (.aD H.next 0 n esz I,H.push (.row Z esz (List.replicate n z.cells)))else I
  |_,_,_=>I)
 |_,_=>I
def gone(i s esz:Nat)(els:List (List ae)):bn:=match i with
 |0=> .old s esz els
 |_+1=> .dead
def ee(P:Program)(H:ad)(ts:List TypeId)(s x:ae):Option (ae×ad):=
 match ts with
 |[t,b]=>
  (match P.underlying t with
  |some (.slice e)=>
   if mM P b=C then uQ P H e s x else
   (match cp P e,kO P e,e2 P e with
   |some esz,D hj,D z=>
    (match jT P H b esz x with
    |some a=>
     if z.cells.length=esz/\0<esz then
      (match s with
      | .aB=>if a.length=0 then D (.aB,H)else
       if a.length*hj<=140737488355328/\a.length<=9223372036854775807 then D (.aD H.next 0 a.length esz I,H.push (dT (rE x e) esz a))else I
      | .aD l i n c cap=>
       if c=esz then
        if a.length=0 then D (s,H)
        else if(n+a.length)*hj<=140737488355328/\n+a.length<=9223372036854775807 then
         (match gN H l i n esz with
         |some os=>
          if cap.any (· <n+a.length)=C then D (.aD H.next 0 (n+a.length) esz I,H.push (.row Z esz (os++a)))
          else if cap=I then
           (match H.get l with
           |some (.row Z _ els)=>D (.aD H.next 0 (n+a.length) esz I,(H.set l (gone i H.next esz els)).push (.row Z esz (os++a)))
           |some (.dz t0 _ _)=>if t0=e/\i=0 then D (.aD H.next 0 (n+a.length) esz I,(H.set l .dead).push (.dz t0 esz (os++a)))else I
           |_=>I)
          else I
         |none=>I)
        else I
       else I
      |_=>I)
     else I
    |none=>I)
   |_,_,_=>I)
  |_=>I)
 |_=>I
def Kx(w:World)(t d ty e:TypeId)(a1:P.underlying t=D (.slice e)){esz:Nat}(g:cp P e=D esz)(base:Option Addr)(n c:Nat)(aH:n<=c)(x:Value)(a:Src P esz d x 0 [] w):
  (Builtin.append_ #[t,d] ty #[.slice base n c,x]).run P w= .ok (.slice base n c) w:=by
 have f:=a.cells;rcases a.kind with⟨h,b⟩|b<;>cases base<;>
  simp[Builtin.append_,run_underlying a1,run_underlying b,run_sizeOf g,a.len,aH,f,storeCells]
def Ak(y:Rel ρ H w)(az:ρ H.next=I){ot:Option TypeId}{t j e:TypeId}(M:∀q,ot=D q->q=e)(ty:TypeId)(a1:P.underlying t=D (.slice e)){esz hj:Nat}{z:ae}(g:cp P e=D esz)(f:kO P e=D hj)(h:e2 P e=D z)
  (R:z.cells.length=esz) (af:0<esz)
  {a os:List (List ae)} (d1:∀e∈a,e.length=esz) (d2:∀e∈a,∀v∈e,v.one=C) {news:List Value} (d3:bO ρ a.flatten news) {l:Value} (O:Src P esz j l a.length news w)
  (o:∀e∈os,e.length=esz) (ab:∀e∈os,∀v∈e,v.one=C) {olds:List Value} (p:bO ρ os.flatten olds) (base:Option Addr) (n c:Nat) (L:os.length=n)
  (hold:(Builtin.firstCells esz n (.slice base n c)).run P w.drew= .ok olds.toArray w.drew) (aP:c<n+a.length) (E:(n+a.length)*hj<=140737488355328) (ad:n+a.length<=9223372036854775807):
  ∃r s u,(Builtin.append_ #[t,j] ty #[.slice base n c,l]).run P w= .ok r s/\bp u (.aD H.next 0 (n+a.length) esz I) r/\Step ρ H w u (H.push (dT ot esz (os++a))) s:=by
 unfold e2 at h;unfold cp at g;unfold kO at f;simp only[dY]at h;obtain⟨i,m,d,T,U⟩:=h;rw[m]at g f;simp only[Option.map_some,bb]at g f;subst g;subst f;have Q:=(v7 U ρ).cells;have S:d.cells.size=i.size:=by have:=Q.length;rw[R]at this;simpa using this.symm
 have N:=run_append_grow_src (P:=P) w t j ty e i d a1 m T base n c olds hold l a.length news O aP aa (growslice_fits aP E);have B:Rel ρ H w.drew:=y.drew;have b:=ss (w:=w.drew) B az (ot:=ot) (esz:=i.size) (els:=os++a) (λe he=>(List.mem_append.1 he).elim (o e) (d1 e)) (λe he=>(List.mem_append.1 he).elim (ab e) (d2 e))
  (xs:=olds++news) (tail:=(Builtin.zeroCells d.cells (grownCap w (n+a.length) c e-(n+a.length))).toList) (by simpa using p.append d3) e M
 have x:((olds++news)++(Builtin.zeroCells d.cells (grownCap w (n+a.length) c e-(n+a.length))).toList).toArray=(olds++news).toArray++Builtin.zeroCells d.cells (grownCap w (n+a.length) c e-(n+a.length)):=by
  apply Array.ext';simp
 rw[x]at b;refine⟨_,_,_,N,?_,⟨b.le,b.next,b.keep,b.rel,b.os,b.tape,b.output,b.size,b.frame,b.own,b.ro,b.olds⟩⟩;have G:=grownCap_ge w (n+a.length) c e;refine bp.aD (ρ:=ρ.dn H.next _) H.next 0 (n+a.length) I _ _ (grownCap w (n+a.length) c e) (Env.gK _ _ _) G (λk K=>by cases K) (λ_=>⟨by show(⟨w.heap.size,0,I⟩:Addr)=⟨w.heap.size,0+0*i.size,I⟩;simp,?_⟩)
 have V:olds.length=n*i.size:=by rw[<-p.length,nD o,L]
 have W:news.length=a.length*i.size:=by rw[<-d3.length,nD d1]
 have Y:(Builtin.zeroCells d.cells (grownCap w (n+a.length) c e-(n+a.length))).size=(grownCap w (n+a.length) c e-(n+a.length))*i.size:=by rw[size_zeroCells,S]
 simp only[Nat.zero_add,List.length_append,V,W,Array.length_toList,Y];rw[<-Nat.add_mul,<-Nat.add_mul];exact Nat.mul_le_mul_right _ aa
def Wt(s:Rel ρ H w)(az:ρ H.next=I){ot:Option TypeId}{l i n esz:Nat}{els:List (List ae)}(aP:H.get l=D (dT ot esz els)){loc:Loc}(al:ρ l=D loc)(aV:i+n<=els.length)
  {d:List (List ae)} (d1:∀e∈d,e.length=esz) (d2:∀e∈d,∀v∈e,v.one=C) {news:List Value} (d3:bO ρ d.flatten news) (aU:loc.off+(i+n+d.length)*esz<=loc.size) (aH:∀u,ot=D u->i=0):
  Step ρ H w (ρ.dn H.next ⟨loc.block,loc.off+i*esz,esz,loc.size⟩) ((H.set l .dead).push (dT ot esz ((els.drop i).take n++d))) (w.setCells loc.block (loc.off+(i+n)*esz) news):=by
 have aF:=ad.bE aP;obtain⟨f,m,⟨_,arr,t,W,R,ai,aJ⟩,aM⟩:=sf s aP;obtain rfl:loc=f:=Option.some.inj (al.symm.trans m);have aK:=ai.1;have ax:=ai.2 rfl;have hle:=Env.mQ az ⟨loc.block,loc.off+i*esz,esz,loc.size⟩;have aX:news.length=d.length*esz:=by rw[<-d3.length,nD d1]
 obtain⟨s1,s2,hc,aR⟩:=yF loc.block news (loc.off+(i+n)*esz) w;have r:∀k,k≠H.next->k≠l->((H.set l .dead).push (dT ot esz ((els.drop i).take n++d))).get k=H.get k:=λk af ah=>by
  rw[ad.dO (by simpa using af),ad.cb (Ne.symm ah)]
 have p:((H.set l .dead).push (dT ot esz ((els.drop i).take n++d))).get l=D .dead:=by
  rw[ad.dO (by simp;omega),ad.c8 aF]
 have z:((H.set l .dead).push (dT ot esz ((els.drop i).take n++d))).get H.next=D (dT ot esz ((els.drop i).take n++d)):=ad.a_ (H.set l .dead) _
 have aq:∀k,((H.set l .dead).push (dT ot esz ((els.drop i).take n++d))).rw k->k≠H.next->H.rw k/\k≠l:=λk h a=>by
  have c:k≠l:=by rintro rfl;rcases h with⟨_,_,h⟩|⟨_,h⟩|⟨_,_,_,h⟩<;>(rw[p]at h;cases h)
  simpa [ad.rw,r k a c,c]using h
 have am:∀k,((H.set l .dead).push (dT ot esz ((els.drop i).take n++d))).live k->k≠H.next->H.live k/\k≠l:=λk h a=>by
  have c:k≠l:=by rintro rfl;rcases h with⟨_,_,_,h⟩|⟨_,h⟩|⟨_,_,_,h⟩<;>(rw[p]at h;cases h)
  simpa [ad.live,r k a c,c]using h
 have E:∀k f,H.live k->k≠l->ρ k=D f->f.block≠loc.block:=λk f h bY e heq=>
  s.apart l k loc f (nN aP) h (Ne.symm bY) al e heq.symm
 have key:fF (ρ.dn H.next ⟨loc.block,loc.off+i*esz,esz,loc.size⟩) (w.setCells loc.block (loc.off+(i+n)*esz) news) ⟨loc.block,loc.off+i*esz,esz,loc.size⟩ Z esz ((els.drop i).take n++d)/\
   (w.setCells loc.block (loc.off+(i+n)*esz) news).heap[loc.block]? =D (.cells (iW arr (loc.off+(i+n)*esz) news) t W):=by
  refine⟨⟨rfl,_,t,W,ux _ _ _ _ _ _ _ R,⟨by rw[su];exact aK,λ_=>by rw[su];exact ax⟩,?_⟩,ux _ _ _ _ _ _ _ R⟩;intro q e he;have aE:((els.drop i).take n).length=n:=by simp;omega
  by_cases aN:q<n
  ·rw[List.getElem?_append_left aa]at he;have aw:=wk he;obtain⟨a0,O⟩:=aJ _ e aw;refine⟨a0,λj v g=> ?_⟩;obtain⟨P,x,aA,G⟩:=O j v g;refine⟨P,x,?_,G.mono hle⟩;have ay:j<esz:=by
    rcases Nat.lt_or_ge j e.length with h|h
    ·omega
    ·rw[List.getElem?_eq_none h]at g;cases g
   show(iW arr (loc.off+(i+n)*esz) news)[loc.off+i*esz+q*esz+j]? =D x;rw[qv _ _ _ _ (by have:=sd (n:=esz) (show i+q<i+n by omega);rw[Nat.add_mul]at this;omega)];rw[show loc.off+i*esz+q*esz+j=loc.off+(i+q)*esz+j by rw[Nat.add_mul];omega];exact aA
  ·rw[List.getElem?_append_right aa,aE]at he;refine⟨d1 e (List.mem_of_getElem? he),λj v g=> ?_⟩;obtain⟨x,aA,G⟩:=d3.get _ _ (Ac d1 he g);refine⟨d2 e (List.mem_of_getElem? he) v (List.mem_of_getElem? g),x,?_,G.mono hle⟩;have aI:q-n<d.length:=by
    rcases Nat.lt_or_ge (q-n) d.length with h|h
    ·exact h
    ·rw[List.getElem?_eq_none h]at he;cases he
   have ay:j<esz:=by
    have:=d1 e (List.mem_of_getElem? he);rcases Nat.lt_or_ge j e.length with h|h
    ·omega
    ·rw[List.getElem?_eq_none h]at g;cases g
   have aT:=sd (n:=esz) aI;have aW:(i+n+d.length)*esz=(i+n)*esz+d.length*esz:=Nat.add_mul _ _ _;have:=wm news arr (loc.off+(i+n)*esz) ((q-n)*esz+j) x aA aa;show(iW arr (loc.off+(i+n)*esz) news)[loc.off+i*esz+q*esz+j]? =D x;rw[show loc.off+i*esz+q*esz+j=loc.off+(i+n)*esz+((q-n)*esz+j) by
    have:q*esz=n*esz+(q-n)*esz:=by rw[<-Nat.add_mul];congr 1;omega
    rw[Nat.add_mul];omega]
   exact this
 have ag:∀b,b<w.heap.size->¬d_ ρ H b->(w.setCells loc.block (loc.off+(i+n)*esz) news).heap[b]? =w.heap[b]? :=by
  intro b _ aG;refine ml _ _ _ _ _ ?_;rintro rfl;exact aG ⟨l,loc,nN aP,al,rfl⟩
 have ak:∀b,d_ (ρ.dn H.next ⟨loc.block,loc.off+i*esz,esz,loc.size⟩) ((H.set l .dead).push (dT ot esz ((els.drop i).take n++d))) b->d_ ρ H b\/w.heap.size<=b:=by
  rintro b ⟨k,f,af,ah,an⟩;by_cases a:k=H.next
  ·subst a;rw[Env.gK]at ah;obtain rfl:=Option.some.inj ah;exact .inl ⟨l,loc,nN aP,al,an⟩
  ·obtain⟨N,_⟩:=aq k af a;rw[Env.gW a]at ah;exact .inl ⟨k,f,N,ah,an⟩
 refine⟨hle,by simp,λk a=>Env.gW (by simp at a;omega),⟨?_,?_,?_,?_,?_⟩,s2,hc,aR,Nat.le_of_eq s1.symm,ag,ak,?ro,?olds⟩
 case olds=>
  refine .same λk aQ M L h=> ?_
  by_cases a:k=H.next
  ·subst a;rw[z]at h;cases ot<;>cases h
  ·by_cases c:k=l
   ·subst c;rw[p]at h;cases h
   ·rwa[r k a c]at h
 case ro=>
  intro k M L h;by_cases a:k=H.next
  ·subst a;rw[z]at h;have:=A1 ot esz ((els.drop i).take n++d);rw[Option.some.inj h]at this;cases this
  ·by_cases c:k=l
   ·subst c;rw[p]at h;cases h
   ·rwa[r k a c]at h
 ·intro k aZ M L h;by_cases a:k=H.next
  ·subst a;rw[z]at h;obtain⟨rfl,rfl,rfl,-⟩:=A2 (Option.some.inj h);exact⟨_,Env.gK _ _ _,key.1⟩
  ·by_cases c:k=l
   ·subst c;rw[p]at h;cases h
   ·rw[r k a c]at h;obtain⟨f,m,aO,ar,u,av,T,U,V⟩:=s.row _ _ _ _ h;have o:=E k f (.inl ⟨_,_,_,h⟩) c m;refine⟨f,by rw[Env.gW a];exact m,aO,ar,u,av,by rw[ml _ _ _ _ _ o];exact T,U,?_⟩;intro q e he;obtain⟨a0,O⟩:=V q e he;refine⟨a0,λj v g=> ?_⟩;obtain⟨P,x,aA,G⟩:=O j v g;exact⟨P,x,aA,G.mono hle⟩
 ·intro k es h;by_cases a:k=H.next
  ·subst a;rw[z]at h;exact(A0 (Option.some.inj h)).elim
  ·by_cases c:k=l
   ·subst c;rw[p]at h;cases h
   ·rw[r k a c]at h;obtain⟨f,m,ents,clock,T,U,V⟩:=s.map _ _ h;have o:=E k f (.inr (.inl ⟨_,h⟩)) c m;exact⟨f,by rw[Env.gW a];exact m,ents,clock,by rw[ml _ _ _ _ _ o];exact T,U.mono hle,V.mono hle⟩
 ·intro k u M L h;by_cases a:k=H.next
  ·subst a;rw[z]at h;obtain⟨Y,rfl,rfl⟩:=A3 (Option.some.inj h);obtain⟨bh,aS,ab,aY⟩:=aM u Y;obtain rfl:=aH u Y;have aL:u=t:=by rw[R]at ab;cases ab;rfl
   subst aL;exact⟨_,Env.gK _ _ _,key.1,_,_,key.2,by show loc.off+0*esz=0;omega⟩
  ·by_cases c:k=l
   ·subst c;rw[p]at h;cases h
   ·rw[r k a c]at h;obtain⟨f,m,au⟩:=s.dz _ _ _ _ h;have o:=E k f (.inr (.inr ⟨_,_,_,h⟩)) c m;exact⟨f,by rw[Env.gW a];exact m,au.frame hle (ml _ _ _ _ _ o)⟩
 ·intro k K ao ap af ah o B y;by_cases a:k=H.next
  ·subst a;rw[Env.gK]at B;obtain rfl:=Option.some.inj B;obtain⟨Q,aj⟩:=am K ah (Ne.symm o);rw[Env.gW (Ne.symm o)]at y;exact(E K ap Q aj y).symm
  ·obtain⟨N,aC⟩:=aq k af a;rw[Env.gW a]at B;by_cases S:K=H.next
   ·subst S;rw[Env.gK]at y;obtain rfl:=Option.some.inj y;exact E k ao N.live aC B
   ·obtain⟨Q,aj⟩:=am K ah S;rw[Env.gW S]at y;exact s.apart k K ao ap N Q o B y
 ·intro k aQ M L h;by_cases a:k=H.next
  ·subst a;rw[z]at h;cases ot<;>cases h
  ·by_cases c:k=l
   ·subst c;rw[p]at h;cases h
   ·rw[r k a c]at h;exact(s.old _ _ _ _ h).step hle (Nat.le_of_eq s1.symm) ag ak
def Step.dead{p:Env}{d f:ad}{o:World}(h:Step ρ H w p d o)(aH:f.next=d.next)(aP:∀k,f.get k=d.get k\/f.get k=D .dead):Step ρ H w p f o:=by
 have g:∀k ro esz els,f.get k=D (.row ro esz els)->d.get k=D (.row ro esz els):=λk ro esz els e=>by
  rcases aP k with h|h
  ·rw[<-h];exact e
  ·rw[h]at e;cases e
 have get_map:∀k es,f.get k=D (.map es)->d.get k=D (.map es):=λk es e=>by
  rcases aP k with h|h
  ·rw[<-h];exact e
  ·rw[h]at e;cases e
 have i:∀k t esz els,f.get k=D (.dz t esz els)->d.get k=D (.dz t esz els):=λk t esz els e=>by
  rcases aP k with h|h
  ·rw[<-h];exact e
  ·rw[h]at e;cases e
 have j:∀k,f.rw k->d.rw k:=λk h=>by
  rcases h with⟨a,b,h⟩|⟨a,h⟩|⟨a,b,c,h⟩
  ·exact .inl ⟨a,b,g _ _ _ _ h⟩
  ·exact .inr (.inl ⟨a,get_map _ _ h⟩)
  ·exact .inr (.inr ⟨a,b,c,i _ _ _ _ h⟩)
 have r:∀k,f.live k->d.live k:=λk h=>by
  rcases h with⟨a,b,c,h⟩|⟨a,h⟩|⟨a,b,c,h⟩
  ·exact .inl ⟨a,b,c,g _ _ _ _ h⟩
  ·exact .inr (.inl ⟨a,get_map _ _ h⟩)
  ·exact .inr (.inr ⟨a,b,c,i _ _ _ _ h⟩)
 refine⟨h.le,by rw[aH];exact h.next,λl al=>h.keep l (by rw[<-aH];exact al),⟨λl ro esz els e=>h.rel.row l ro esz els (g _ _ _ _ e),λl es e=>h.rel.map l es (get_map _ _ e),λl t esz els e=>h.rel.dz l t esz els (i _ _ _ _ e),λl m a b af ah=>h.rel.apart l m a b (j _ af) (r _ ah),λl s esz els e=> ?_⟩,h.os,h.tape,h.output,h.size,h.frame,?_,λk esz els e=>h.ro k esz els (g _ _ _ _ e),λk s esz els e=>h.olds k s esz els (by
  rcases aP k with h|h
  ·rw[<-h];exact e
  ·rw[h]at e;cases e)⟩
 ·have q:d.get l=D (.old s esz els):=by
   rcases aP l with h|h
   ·rw[<-h];exact e
   ·rw[h]at e;cases e
  obtain⟨loc,x,v,y⟩:=h.rel.old _ _ _ _ q;exact⟨loc,x,v,y.imp id λn=>⟨n.1,λ⟨m,u,z,B,E⟩=>n.2 ⟨m,u,j _ z,B,E⟩⟩⟩
 ·rintro b ⟨l,loc,af,ah,an⟩;exact h.own b ⟨l,loc,j _ af,ah,an⟩
def Step.VV{f:Env}{d g:ad}{i:World}(h:Step ρ H w f d i)(aH:g.next=d.next)(aP:∀k,g.get k=d.get k\/(d.get k=D .dead/\∃s esz els,g.get k=D (.old s esz els)/\ng f (d_ f d) i k s esz els/\∃loc,f k=D loc/\d_ ρ H loc.block)):Step ρ H w f g i:=by
 have same:∀k b,b.oP=Z->g.get k=D b->d.get k=D b:=λk b q e=>by
  rcases aP k with h|⟨_,s,esz,els,h,_⟩
  ·rw[<-h];exact e
  ·rw[h]at e;cases e;cases q
 have j:∀k,g.rw k->d.rw k:=λk h=>by
  rcases h with⟨a,b,h⟩|⟨a,h⟩|⟨a,b,c,h⟩
  ·exact .inl ⟨a,b,same _ _ rfl h⟩
  ·exact .inr (.inl ⟨a,same _ _ rfl h⟩)
  ·exact .inr (.inr ⟨a,b,c,same _ _ rfl h⟩)
 have r:∀k,g.live k->d.live k:=λk h=>by
  rcases h with⟨a,b,c,h⟩|⟨a,h⟩|⟨a,b,c,h⟩
  ·exact .inl ⟨a,b,c,same _ _ rfl h⟩
  ·exact .inr (.inl ⟨a,same _ _ rfl h⟩)
  ·exact .inr (.inr ⟨a,b,c,same _ _ rfl h⟩)
 have sub:∀{l s esz els},ng f (d_ f d) i l s esz els->ng f (d_ f g) i l s esz els:=λ⟨loc,x,v,y⟩=>⟨loc,x,v,y.imp id λn=>⟨n.1,λ⟨m,u,z,B,E⟩=>n.2 ⟨m,u,j _ z,B,E⟩⟩⟩
 refine⟨h.le,by rw[aH];exact h.next,λl al=>h.keep l (by rw[<-aH];exact al),⟨λl ro esz els e=>h.rel.row l ro esz els (same _ _ rfl e),λl es e=>h.rel.map l es (same _ _ rfl e),λl t esz els e=>h.rel.dz l t esz els (same _ _ rfl e),λl m a b af ah=>h.rel.apart l m a b (j _ af) (r _ ah),λl s esz els e=> ?_⟩,h.os,h.tape,h.output,h.size,h.frame,?_,λk esz els e=>h.ro k esz els (same _ _ rfl e),λk s esz els e=> ?_⟩
 ·rcases aP l with af|⟨_,G,p,o,af,ah,_⟩
  ·exact sub (h.rel.old _ _ _ _ (by rw[<-af];exact e))
  ·rw[af]at e;cases e;exact sub ah
 ·rintro b ⟨l,loc,af,ah,an⟩;exact h.own b ⟨l,loc,j _ af,ah,an⟩
 ·rcases aP k with af|⟨_,G,p,o,af,_,loc,ah,an⟩
  ·exact h.olds k s esz els (by rw[<-af];exact e)
  ·exact .inr ⟨loc,ah,.inl an⟩
def Nt{ot:Option TypeId}{l i n esz a:Nat}{els os:List (List ae)}(aP:H.get l=D (dT ot a els))(h:gN H l i n esz=D os):a=esz/\i+n<=els.length/\os=(els.drop i).take n:=by
 unfold gN at h;cases ot with
 |none=>
  rw[aP]at h;simp only[dT]at h;split at h
  ·rename_i aq;exact⟨aq.1,aq.2,(Option.some.inj h).symm⟩
  ·cases h
 |some t=>
  rw[aP]at h;simp only[dT]at h;split at h
  ·rename_i aq;exact⟨aq.1,aq.2,(Option.some.inj h).symm⟩
  ·cases h
def Hz(B:Rel ρ H w)(az:ρ H.next=I){ot:Option TypeId}{t O e:TypeId}(aE:∀m,ot=D m->m=e)(ty:TypeId)(hu:P.underlying t=D (.slice e)){hj:Nat}{z:ae}{l i n:Nat}{cap:Option Nat}{loc:Loc}{a os:List (List ae)}(aS:cap=I)(aT:¬a.length=0)(f:cp P e=D loc.esz)(ap:kO P e=D hj)(aI:e2 P e=D z)
  (aJ:z.cells.length=loc.esz) (aF:0<loc.esz)
  (d1:∀e∈a,e.length=loc.esz) (d2:∀e∈a,∀v∈e,v.one=C) {news:List Value} (d3:bO ρ a.flatten news) {Q:Value} (Y:Src P loc.esz O Q a.length news w)
  (M:os.length=n) (aM:∀e∈os,e.length=loc.esz) (aN:∀e∈os,∀v∈e,v.one=C) {olds:List Value} (aO:bO ρ os.flatten olds) (s:Addr) (c:Nat)
  (hold:(Builtin.firstCells loc.esz n (.slice (D s) n c)).run P w.drew= .ok olds.toArray w.drew) (R:(n+a.length)*hj<=140737488355328/\n+a.length<=9223372036854775807)
  (al:ρ l=D loc) (ao:0<c->s=⟨loc.block,loc.off+i*loc.esz,I⟩/\loc.off+(i+c)*loc.esz<=loc.size) {aj:Nat} {d:List (List ae)} (ay:∀m,ot=D m->i=0) (g:H.get l=D (dT ot aj d)) (aC:gN H l i n loc.esz=D os):
  ∃r q o,(Builtin.append_ #[t,O] ty #[.slice (D s) n c,Q]).run P w= .ok r q/\bp o (.aD H.next 0 (n+a.length) loc.esz I) r/\Step ρ H w o ((H.set l .dead).push (dT ot loc.esz (os++a))) q/\(i=0->ng o (d_ o ((H.set l .dead).push (dT ot loc.esz (os++a)))) q l H.next loc.esz d):=by
 obtain⟨aU,aA⟩:=Nt g aC;obtain⟨L,ax,⟨aq,arr,t0,aR,E,S,aW⟩,-⟩:=sf B g;obtain rfl:loc=L:=Option.some.inj (al.symm.trans ax);subst aq;obtain⟨aw,rfl⟩:=aA
 ·have M:=M;by_cases K:n+a.length<=c
  ·obtain⟨rfl,ar⟩:=ao aa;have aX:=S.1;have au:=S.2 rfl;have aH:=Wt (n:=n) B az g al aw d1 d2 d3 (by
    refine Nat.le_trans (Nat.add_le_add_left (Nat.mul_le_mul_right _ ?_) _) ar;omega) ay
   have aV:news.length=a.length*loc.esz:=by rw[<-d3.length,nD d1]
   have U:∀j,j<news.length->loc.off+i*loc.esz+n*loc.esz+j<arr.size:=by
    intro j y;have af:(i+c)*loc.esz=i*loc.esz+c*loc.esz:=Nat.add_mul _ _ _;have ah:n*loc.esz+a.length*loc.esz<=c*loc.esz:=by rw[<-Nat.add_mul];exact Nat.mul_le_mul_right _ K
    omega
   cases G:P.info? e with
   |none=>unfold cp at f;rw[G]at f;cases f
   |some ab=>
    have x:ab.size=loc.esz:=by unfold cp at f;rw[G]at f;simpa using f
    have W:=run_append_room_src (P:=P) w t O ty e ab hu G loc.block (loc.off+i*loc.esz) n c Q a.length news (by rw[x];exact Y) K
     (λj y=>by rw[x];simp[World.cell?,E,U j y])
     (λj y=>by
      rw[x];have:=au _ (U j y);simp only[World.frozen?,E];simpa using this)
    rw[x]at W;refine⟨_,_,_,W,?_,by rw[show loc.off+i*loc.esz+n*loc.esz=loc.off+(i+n)*loc.esz by rw[Nat.add_mul];omega];exact aH,λav=>⟨loc,by rw[Env.gW (by have:=ad.bE g;omega)];exact al,by rw[(yF _ _ _ _).1];exact j4 E,.inl (by rw[Env.gK,av,Nat.zero_mul,Nat.add_zero])⟩⟩;refine bp.aD (ρ:=ρ.dn H.next _) H.next 0 (n+a.length) I ⟨loc.block,loc.off+i*loc.esz,loc.esz,loc.size⟩ _ c (Env.gK _ _ _) K (λk b=>by cases b) (λ_=>⟨by simp,?_⟩)
    have af:(i+c)*loc.esz=i*loc.esz+c*loc.esz:=Nat.add_mul _ _ _;simp only[Nat.zero_add];omega
  ·
    obtain⟨r,q,o,am,an,u⟩:=Ak B az (ot:=ot) aE ty hu f ap aI aJ aF d1 d2 d3 Y aM aN aO (D s) n c M hold aa R.1 R.2;have V:=ad.bE g;refine⟨r,q,o,am,an,u.dead (by simp) (λk=> ?_),λ_=> ?_⟩
    rotate_left
    ·have T:(H.push (dT ot loc.esz ((d.drop i).take n++a))).get l=D (dT ot loc.esz d):=by rw[ad.dO aa];exact g
     obtain⟨L,N,⟨aY,ai,m,ak,ag,aP,aQ⟩,_⟩:=sf u.rel T;obtain rfl:loc=L:=Option.some.inj ((u.le _ _ al).symm.trans N);refine⟨loc,N,j4 ag,.inr ⟨⟨rfl,ai,m,ak,ag,⟨aP.1,λe=>by cases e⟩,aQ⟩,?_⟩⟩;rintro⟨k,aL,bR,b0,aK⟩;have p:k≠l:=by
      rintro rfl;have:((H.set k .dead).push (dT ot loc.esz ((d.drop i).take n++a))).get k=D .dead:=by rw[ad.dO (by simp;omega),ad.c8 V]
      rcases bR with⟨_,_,h⟩|⟨_,h⟩|⟨_,_,_,h⟩<;>(rw[this]at h;cases h)
     have aG:(H.push (dT ot loc.esz ((d.drop i).take n++a))).rw k:=by
      have e:((H.set l .dead).push (dT ot loc.esz ((d.drop i).take n++a))).get k=(H.push (dT ot loc.esz ((d.drop i).take n++a))).get k:=by
       by_cases b:k=H.next
       ·subst b;rw[ad.a_];exact ad.a_ (H.set l .dead) _
       ·rw[ad.dO (by simpa using b),ad.cb (Ne.symm p),ad.dO b]
      simpa [ad.rw,e]using bR
     exact u.rel.apart k l aL loc aG (nN T).live p b0 N aK
    by_cases b:k=H.next
    ·subst b;left;rw[ad.a_];exact ad.a_ (H.set l .dead) _
    ·by_cases p:k=l
     ·subst p;right;rw[ad.dO (by simpa using b),ad.c8 V]
     ·left;rw[ad.dO (by simpa using b),ad.cb (Ne.symm p),ad.dO b]
def Eo(z:Array Value):∀n,(Builtin.zeroCells z n).toList=(List.replicate n z.toList).flatten
 |0=>by simp[Builtin.zeroCells]
 |n+1=>by
  rw[List.replicate_succ,List.flatten_cons,<-Eo z n];apply List.ext_getElem?;intro i;simp only[Builtin.zeroCells,Array.toList_map,Array.toList_range,List.getElem?_map];by_cases a:i<(n+1)*z.size
  ·have b:0<z.size:=by
    rcases Nat.eq_zero_or_pos z.size with h|h
    ·rw[h]at a;simp at a
    ·exact h
   rw[List.getElem?_range a];by_cases ah:i<z.size
   ·rw[List.getElem?_append_left (by simpa using ah)];simp[Nat.mod_eq_of_lt ah,ah]
   ·rw[List.getElem?_append_right (by simp;omega)];rw[Nat.succ_mul]at a;simp only[Array.length_toList,List.getElem?_map];rw[List.getElem?_range aa];simp only[Option.map_some];rw[show i%z.size=(i-z.size)%z.size from Nat.mod_eq_sub_mod aa]
  ·rw[List.getElem?_eq_none (by simp;omega)];rw[List.getElem?_append_right (by simp;rw[Nat.succ_mul]at a;omega)];rw[List.getElem?_eq_none]
   ·rfl
   ·rw[Nat.succ_mul]at a;simp;omega
def Zm(t a ty e:TypeId)(i:TypeInfo)(z:Value)(a1:P.underlying t=D (.slice e))(d:P.info? e=D i)(f:i.zero=D z)(aA:P.underlying a=D (.int .i64))(n:Nat)(aH:0<n)(m:0<i.size)
  (k:n*i.bytes<=140737488355328) (j:n<=1125899906842624) (l:Builtin.nextslicecap n 0*i.bytes<=281474976710656):
  (Builtin.append_ #[t,a] ty #[.slice I 0 0,.int .i64 n]).run P w=
   .ok (.slice (D ⟨w.heap.size,0,I⟩) n (grownCap w n 0 e)) (w.drew.alloc (.cells (Builtin.zeroCells z.cells n++Builtin.zeroCells z.cells (grownCap w n 0 e-n)) e)):=by
 have hw:IntKind.i64.wrap (n:Int)=n:=IntWalk.i64_in n ⟨aa,aa⟩;have af:¬((n:Int)<0):=aa;have ah:¬((n:Int)*(i.bytes:Int)>281474976710656):=by
  have:((n*i.bytes:Nat):Int)<=140737488355328:=aa;rw[Int.natCast_mul]at this;omega
 have an:¬(n<=0):=aa;have aM:¬(9223372036854775807<(n:Int)):=aa;have b:¬(281474976710656<Builtin.nextslicecap n 0*i.bytes):=aa;have c:¬(n*i.size=0):=by
  intro h;rcases Nat.mul_eq_zero.1 h with h|h<;>omega
 have g:¬(n=0\/i.size=0):=aa;simp[Builtin.append_,run_underlying a1,run_underlying aA,sizeOf,typeInfo,zeroValue,d,f,af,ah,aM,b,hw,asInt,asIntOf,Question.forced,newRow,grownCap,Builtin.firstCells];rw[if_neg aa,if_neg c]
def MK{ρ:Env}{cs:List ae}{xs:List Value}(h:bO ρ cs xs):∀n,bO ρ (List.replicate n cs).flatten (List.replicate n xs).flatten
 |0=> .nil
 |n+1=>by rw[List.replicate_succ,List.replicate_succ,List.flatten_cons,List.flatten_cons];exact h.append (MK h n)
def NL(L:Rel ρ H w){t j e:TypeId}{s x a:ae}{u B:Value}{H':ad}(ty:TypeId)(hu:P.underlying t=D (.slice e))(V:P.underlying j=D (.int .i64))(h:uQ P H e s x=D (a,H'))(M:H.next<H'.next->ρ H.next=I)(U:bp ρ s u)(aA:bp ρ x B):
  ∃r y E,(Builtin.append_ #[t,j] ty #[u,B]).run P w= .ok r y/\bp E a r/\Step ρ H w E H' y:=by
 unfold uQ at h;split at h
 ·rename_i n;cases U;cases aA;split at h
  ·rename_i esz hj z f d g;split at h
   ·rename_i aq;obtain⟨aH,q,S,R,l,K⟩:=aq;simp only[bb,cK]at h;obtain⟨rfl,rfl⟩:=h;have az:=M (by simp);unfold e2 at g;unfold cp at f;unfold kO at d;simp only[dY]at g;obtain⟨i,m,c,Y,ab⟩:=g;rw[m]at f d;simp only[Option.map_some,bb]at f d;subst f;subst d;have p:=(v7 ab ρ).cells;have W:c.cells.size=i.size:=by have:=p.length;rw[q]at this;simpa using this.symm
    have N:=growslice_fits (need:=n) (old:=0) (bytes:=i.bytes) aa l;have T:=Zm (P:=P) (w:=w) t j ty e i c hu m Y V n aH S l K (by simpa using N);have b:=ss (w:=w.drew) L.drew az (ot:=none) (esz:=i.size) (els:=List.replicate n z.cells) (λe he=>by rw[List.eq_of_mem_replicate he];exact q) (λe he v o=>by rw[List.eq_of_mem_replicate he]at o;exact List.all_eq_true.1 R v o)
     (xs:=(Builtin.zeroCells c.cells n).toList) (tail:=(Builtin.zeroCells c.cells (grownCap w n 0 e-n)).toList) (by rw[Eo];exact MK p n) e (λ_ h=>by cases h)
    have G:((Builtin.zeroCells c.cells n).toList++(Builtin.zeroCells c.cells (grownCap w n 0 e-n)).toList).toArray=Builtin.zeroCells c.cells n++Builtin.zeroCells c.cells (grownCap w n 0 e-n):=by
     apply Array.ext';simp
    rw[G]at b;refine⟨_,_,_,T,?_,⟨b.le,b.next,b.keep,b.rel,b.os,b.tape,b.output,b.size,b.frame,b.own,b.ro,b.olds⟩⟩;have O:n<=grownCap w n 0 e:=grownCap_ge w n 0 e;refine bp.aD (ρ:=ρ.dn H.next _) H.next 0 n I _ _ (grownCap w n 0 e) (Env.gK _ _ _) O (λk Q=>by cases Q) (λ_=>⟨by show(⟨w.heap.size,0,I⟩:Addr)=⟨w.heap.size,0+0*i.size,I⟩;simp,?_⟩)
    simp only[Nat.zero_add,Array.length_toList,size_zeroCells,W];rw[<-Nat.add_mul];exact Nat.mul_le_mul_right _ aa
   ·cases h
  ·cases h
 ·cases h
def Ng(d:Rel ρ H w){ts:List TypeId}{s x a:ae}{ap G:Value}{H':ad}(ty:TypeId)(h:ee P H ts s x=D (a,H'))(v:H.next<H'.next->ρ H.next=I)(N:bp ρ s ap)(aA:bp ρ x G):
  ∃r o p,(Builtin.append_ ts.toArray ty #[ap,G]).run P w= .ok r o/\bp p a r/\Step ρ H w p H' o:=by
 unfold ee at h;split at h
 ·rename_i t ag;split at h
  ·rename_i e hu;split at h
   ·rename_i av;exact NL d ty hu (Tz av) h v N aA
   split at h
   ·rename_i esz hj z m K O;split at h
    ·rename_i R ay;obtain⟨d1,d2,news,d3,E⟩:=NW (P:=P) d ay aA;split at h
     ·rename_i aE;obtain⟨Q,M⟩:=aE;have an:R.length=0->Src P esz ag G 0 [] w:=λb=>by
       have:R=[]:=List.eq_nil_of_length_eq_zero b;subst this;have:news=[]:=by cases d3;rfl
       subst this;simpa using E
      split at h
      ·cases N;split at h
       ·rename_i b;simp only[bb,cK]at h;obtain⟨rfl,rfl⟩:=h;exact⟨_,_,_,Kx w t ag ty e hu m I 0 0 (bC _) G (an b),.aB,Step.refl d⟩
       ·rename_i b;split at h
        ·rename_i g;simp only[bb,cK]at h;obtain⟨rfl,rfl⟩:=h;have az:=v (by simp);have:=Ak d az (N3 (x:=x)) ty hu m K O Q M d1 d2 d3 E (os:=[]) (by simp) (by simp) (olds:=[]) (by simpa using bO.nil) I 0 0 rfl
          (run_firstCells_none w.drew esz 0 0 0) aa (by simpa using g.1) (by simpa using g.2)
         simpa using this
        ·cases h
      ·rename_i l i n aG cap;split at h
       ·rename_i he;split at h
        ·rename_i b;simp only[bb,cK]at h;obtain⟨rfl,rfl⟩:=h;cases N with|aD _ _ _ _ loc f c al aH aq q=>
         exact⟨_,_,_,Kx w t ag ty e hu m (D f) n c aH G (an b),.aD l i n cap loc f c al aH aq q,Step.refl d⟩
        ·rename_i b;split at h
         ·rename_i g;split at h
          ·rename_i os U;cases N with|aD _ _ _ _ loc f c al aH aq q=>
           subst he;obtain⟨V,W,Y,olds,ab,af,aF,aI⟩:=zl d U al;have hold:(Builtin.firstCells loc.esz n (.slice (D f) n c)).run P w.drew= .ok olds.toArray w.drew:=by
            refine run_firstCells_some w.drew loc.esz n f n c olds af (λj u ak=> ?_);have ax:0<c:=by
             rcases Nat.eq_zero_or_pos c with b|b
             ·have aC:n=0:=aa;rw[aC]at af;have:olds=[]:=List.eq_nil_of_length_eq_zero (by simpa using af);subst this;simp at ak
             ·exact b
            obtain⟨rfl,_⟩:=q ax;rw[lY];exact aF j u ak
           split at h
           ·rename_i L;simp only[bb,cK]at h;obtain⟨rfl,rfl⟩:=h;have az:=v (by simp);have aw:c<n+R.length:=by
             cases S:cap with
             |none=>rw[S]at L;simp at L
             |some k=>rw[S]at L;simp at L;have:=aq k S;omega
            exact Ak d az (ot:=none) (λ_ h=>by cases h) ty hu m K O Q M d1 d2 d3 E W Y ab (D f) n c V hold aw g.1 g.2
           ·split at h
            ·rename_i aj;split at h
             ·rename_i ar au y;simp only[bb,cK]at h;obtain⟨rfl,rfl⟩:=h;obtain⟨r,o,p,ah,ai,z3,z4⟩:=Hz d (v (by simp)) (ot:=none) (λ_ h=>by cases h) ty hu aj b m K O Q M d1 d2 d3 E V W Y ab f c hold g al q (λ_ h=>by cases h) y U;refine⟨r,o,p,ah,ai,z3.VV (by simp) λk=> ?_⟩;have am:=ad.bE y;by_cases B:k=H.next
              ·subst B;left;exact(ad.a_ (H.set l _) _).trans (ad.a_ (H.set l .dead) _).symm
              ·by_cases T:k=l
               ·subst T;rw[ad.dO (by simpa using B),ad.c8 am,ad.dO (by simpa using B),ad.c8 am];cases i with
                |zero=>exact .inr ⟨rfl,_,_,_,rfl,z4 rfl,loc,z3.le _ _ al,_,loc,.inl ⟨_,_,y⟩,al,rfl⟩
                |succ i=>exact .inl rfl
               ·left;rw[ad.dO (by simpa using B),ad.cb (Ne.symm T),ad.dO (by simpa using B),ad.cb (Ne.symm T)]
             ·rename_i t0 ar au y;split at h
              ·rename_i ao;simp only[bb,cK]at h;obtain⟨rfl,rfl⟩:=h;obtain⟨r,o,p,ah,ai,z3,_⟩:=Hz d (v (by simp)) (ot:=some t0) (λ_ h=>by rw[<-Option.some.inj h];exact ao.1) ty hu aj b m K O Q M d1 d2 d3 E V W Y ab f c hold g al q (λ_ _=>ao.2) y U;exact⟨r,o,p,ah,ai,z3⟩
              ·cases h
             ·cases h
            ·cases h
          ·cases h
         ·cases h
       ·cases h
      ·cases h
     ·cases h
    ·cases h
   ·cases h
  ·cases h
 ·cases h
end
section
variable {P:Program}{ρ:Env}{H:ad}{w:World}
def rD(P:Program)(H:ad)(t:TypeId)(x:ae):Option ae:=
 match P.underlying t,x with
 |some .string,.str s=>D (.int .i64 s.length)
 |some (.slice _),.aD _ _ n _ _=>D (.int .i64 n)
 |some (.slice _),.aB=>D (.int .i64 0)
 |some (.array n _),_=>D (.int .i64 n)
 |some (.map _ _),.ib=>D (.int .i64 0)
 |some (.map _ _),.map l=>(match H.get l with|some (.map es)=>D (.int .i64 es.length)|_=>I)
 |_,_=>I
def rV{l:Nat}{es:List (ae×ae)}(b:Rel ρ H w)(aP:H.get l=D (.map es)){loc:Loc}(al:ρ l=D loc):
  ∃ents clock,w.heap[loc.block]? =D (.map ents clock)/\(getObj loc.block).run P w= .ok (.map ents clock) w/\bO ρ (es.map (·.1)) (ents.toList.map (·.key))/\bO ρ (es.map (·.2)) (ents.toList.map (·.val)):=by
 obtain⟨d,c,ents,clock,a,af,ah⟩:=b.map _ _ aP;obtain rfl:loc=d:=Option.some.inj (al.symm.trans c);exact⟨ents,clock,a,by simp[getObj,Sem.run,a],af,ah⟩
def NF(b:Rel ρ H w){t:TypeId}{x v:ae}{a:Value}(ty:TypeId)(h:rD P H t x=D v)(aA:bp ρ x a):∃r,(Builtin.len_ #[t] ty #[a]).run P w= .ok r w/\bp ρ v r:=by
 unfold rD at h;split at h
 ·rename_i s hu;cases aA;simp only[bb]at h;subst h;have d:(⟨s.toArray⟩:ByteArray).size=s.length:=by show s.toArray.size=_;simp
  exact⟨_,by simp[Builtin.len_,run_underlying hu,goInt,d],.int _ _⟩
 ·rename_i hu;cases aA;simp only[bb]at h;subst h;exact⟨_,by simp[Builtin.len_,run_underlying hu,goInt],.int _ _⟩
 ·rename_i hu;cases aA;simp only[bb]at h;subst h;exact⟨_,by simp[Builtin.len_,run_underlying hu,goInt],.int _ _⟩
 ·rename_i n e hu;simp only[bb]at h;subst h;exact⟨_,by simp[Builtin.len_,run_underlying hu,goInt],.int _ _⟩
 ·rename_i hu;cases aA;simp only[bb]at h;subst h;exact⟨_,by simp[Builtin.len_,run_underlying hu,goInt],.int _ _⟩
 ·rename_i hu;cases aA with|map _ loc al=>
  split at h
  ·rename_i es aP;simp only[bb]at h;subst h;obtain⟨ents,clock,f,c,af,ah⟩:=rV (P:=P) b aP al;have hlen:=af.length;simp only[List.length_map,Array.length_toList]at hlen;exact⟨_,by simp[Builtin.len_,run_underlying hu,goInt,c,<-hlen],.int _ _⟩
  ·cases h
 ·cases h
def zt(x y:ae):Option ae:=
 match x,y with
 | .int k a,.int _ b=>D (.int k (if a<b then b else a))
 |_,_=>I
def zu(x y:ae):Option ae:=
 match x,y with
 | .int k a,.int _ b=>D (.int k (if b<a then b else a))
 |_,_=>I
def NN{x y v:ae}{a b:Value}(ts:Array TypeId)(ty:TypeId)(h:zt x y=D v)(aA:bp ρ x a)(c:bp ρ y b)(w:World):∃r,(Builtin.max_ ts ty #[a,b]).run P w= .ok r w/\bp ρ v r:=by
 unfold zt at h;split at h
 ·cases aA;cases c;simp only[bb]at h;subst h;exact⟨_,by simp[Builtin.max_,Builtin.max2],.int _ _⟩
 ·cases h
def NQ{x y v:ae}{a b:Value}(ts:Array TypeId)(ty:TypeId)(h:zu x y=D v)(aA:bp ρ x a)(c:bp ρ y b)(w:World):∃r,(Builtin.min_ ts ty #[a,b]).run P w= .ok r w/\bp ρ v r:=by
 unfold zu at h;split at h
 ·cases aA;cases c;simp only[bb]at h;subst h;exact⟨_,by simp[Builtin.min_,Builtin.min2],.int _ _⟩
 ·cases h
def jD(x:ae)(i:Nat):Option ae:=
 match x with
 | .tuple ak=>ak[i]?
 |_=>I
def Ny{x v:ae}{a:Value}{i:Nat}(h:jD x i=D v)(aA:bp ρ x a)(w:World):∃r,(Instr.extract a i).run P w= .ok r w/\bp ρ v r:=by
 unfold jD at h;split at h
 ·cases aA with|tuple _ xs b=>
  obtain⟨r,au,c⟩:=b.get _ _ h;exact⟨r,by simp[Instr.extract,au],c⟩
 ·cases h
def pP(P:Program)(src dst:TypeId)(x:ae):Option ae:=
 match P.underlying src,P.underlying dst,x with
 |some _,D (.int k),.int _ n=>D (.int k (k.wrap n))
 |some _,D .string,.str s=>D (.str s)
 |_,_,_=>I
def Np{src dst:TypeId}{x v:ae}{c:Value}(h:pP P src dst x=D v)(aA:bp ρ x c)(w:World):∃r,(convert src dst c).run P w= .ok r w/\bp ρ v r:=by
 unfold pP at h;split at h
 ·rename_i b a;cases aA;simp only[bb]at h;subst h;exact⟨_,by simp[convert,run_underlying b,run_underlying a,Conv.intToInt],.int _ _⟩
 ·rename_i b a;cases aA;simp only[bb]at h;subst h;exact⟨_,by simp[convert,run_underlying b,run_underlying a],.str _⟩
 ·cases h
def byteOf:List ae->Option UInt8
 |[.int .u8 n]=>D (UInt8.ofNat n.toNat)
 |_=>I
def bytesOf:List (List ae)->Option (List UInt8)
 |[]=>D []
 |e::r=>match byteOf e,bytesOf r with
  |some b,D l=>D (b::l)
  |_,_=>I
def ry(P:Program)(H:ad)(src dst:TypeId)(x:ae):Option ae:=
 match P.underlying src,P.underlying dst,x with
 |some (.slice e),D .string,.aD l i n esz _=>
  (match P.underlying e,gN H l i n esz with
  |some (.int .u8),D a=>if esz=1 then(bytesOf a).map .str else I
  |_,_=>I)
 |some (.slice e),D .string,.aB=>(match P.underlying e with|some (.int .u8)=>D (.str [])|_=>I)
 |_,_,_=>I
def FF(f:Value->ByteArray->Sem (ForInStep ByteArray))(az:∀n s,f (.int .u8 n) s=pure (ForInStep.yield (s.push (UInt8.ofNat n.toNat)))):∀(c:List (List ae)) (bs:List UInt8),bytesOf c=D bs->∀(xs:List Value),bO ρ c.flatten xs->∀(acc:ByteArray),
  (forIn xs acc f).run P w= .ok (acc++⟨bs.toArray⟩) w
 |[],bs,h,xs,aA,acc=>by
  simp[bytesOf]at h;subst h;cases aA;have:acc++(⟨#[]⟩:ByteArray)=acc:=by apply ByteArray.ext;simp
  simp[Sem.run_pure,this]
 |d::c,bs,h,xs,aA,acc=>by
  unfold bytesOf at h;split at h
  ·rename_i b l a al;simp only[bb]at h;subst h;unfold byteOf at a;split at a
   ·rename_i n;simp only[bb]at a;subst a;cases aA with|cons _ x _ j e g=>
    cases e;have i:=FF f az c l al j g (acc.push (UInt8.ofNat n.toNat));rw[List.forIn_cons];simp only[Sem.run_bind,az,Sem.run_pure,Result.andThen_ok];rw[i]
    congr 1
    apply ByteArray.ext;simp
   ·cases a
  ·cases h
def Nl(p:Rel ρ H w){src dst:TypeId}{x v:ae}{m:Value}(h:ry P H src dst x=D v)(aA:bp ρ x m):∃r,(convert src dst m).run P w= .ok r w/\bp ρ v r:=by
 unfold ry at h;split at h
 ·rename_i e l i n esz cap d b;split at h
  ·rename_i o he y;split at h
   ·rename_i af;simp only[Option.map_eq_some_iff]at h;obtain⟨bs,s,rfl⟩:=h;cases aA with|aD _ _ _ _ loc a c al aH aq q=>
    obtain⟨L,M,N,xs,E,k,G,O⟩:=zl p y al;refine⟨.string ⟨bs.toArray⟩,?_,.str _⟩;have B:(loadCells a n).run P w= .ok xs.toArray w:=by
     rw[af,Nat.mul_one]at k;rw[<-k];refine run_loadCells_list w a xs (λj u g=> ?_);have t:0<c:=by
      rcases Nat.eq_zero_or_pos c with f|f
      ·have K:n=0:=aa;have:xs=[]:=List.eq_nil_of_length_eq_zero aa;subst this;simp at g
      ·exact f
     obtain⟨rfl,_⟩:=q t;rw[lY];exact G j u g
    have z:ByteArray.empty++(⟨bs.toArray⟩:ByteArray)=⟨bs.toArray⟩:=by apply ByteArray.ext;simp
    simp only[convert,Sem.run_bind,run_underlying d,run_underlying b,run_underlying he,Result.andThen_ok,Conv.bytesToString,B];rw[<-Array.forIn_toList];show((Sem.run P (forIn xs ByteArray.empty _) w).andThen _)=_;rw[FF (P:=P) (w:=w) _ (λ_ _=>rfl) o bs s xs E ByteArray.empty,z];rfl
   ·cases h
  ·cases h
 ·rename_i e d b;cases aA;split at h
  ·rename_i he;simp only[bb]at h;subst h;exact⟨.string ⟨#[]⟩,by simp[convert,run_underlying d,run_underlying b,run_underlying he,Conv.bytesToString];rfl,.str []⟩
  ·cases h
 ·cases h
def g9(P:Program)(H:ad)(t:TypeId)(l c:ae):Option (ae×ad):=
 match P.underlying t,l,c with
 |some (.slice e),.int bR n,.int b0 m=>
  (match cp P e,kO P e,e2 P e with
  |some a,D hj,D z=>
   if bR= .i64/\b0= .i64/\0<=n/\n<=m/\m<=9223372036854775807/\(hj:Int)*m<=281474976710656/\z.cells.length=a/\0<a/\z.cells.all ae.one=C then
    D (.aD H.next 0 n.toNat a (D m.toNat),H.push (.row Z a (List.replicate m.toNat z.cells)))
   else I
  |_,_,_=>I)
 |_,_,_=>I
def wrap_i64{n:Int}(a:0<=n)(af:n<=9223372036854775807):IntKind.i64.wrap n=n:=IntWalk.i64_in n ⟨aa,aa⟩
def NM(G:Rel ρ H w)(az:ρ H.next=I){t:TypeId}{l c a:ae}{x o:Value}{H':ad}(h:g9 P H t l c=D (a,H'))(al:bp ρ l x)(aq:bp ρ c o):
  ∃r y B,(Instr.makeSlice t x o).run P w= .ok r y/\bp B a r/\Step ρ H w B H' y:=by
 unfold g9 at h;split at h
 ·rename_i e bR n b0 m hu;cases al;cases aq;split at h
  ·rename_i d hj z b g U;split at h
   ·rename_i K;obtain⟨rfl,rfl,p,af,ah,an,s,ag,N⟩:=K;simp only[bb,cK]at h;obtain⟨rfl,rfl⟩:=h;obtain⟨k,W,V⟩:=nt U w;have O:∀u∈z.cells,u.one=true:=by simpa using N
    have q:=(V ρ).cells;have j:k.cells.size=d:=by have:=q.length;rw[<-s,this];simp
    have Q:=bO.Ad q m.toNat;have R:=ss G az (ot:=none) (esz:=d) (els:=List.replicate m.toNat z.cells) (λe he=>by rw[List.eq_of_mem_replicate he];exact s)
     (λe he=>by rw[List.eq_of_mem_replicate he];exact O) Q (tail:=[]) e (λ_ h=>by cases h)
    cases f:P.info? e with
    |none=>unfold cp at b;rw[f]at b;cases b
    |some v=>
     have Y:v.size=d:=by unfold cp at b;rw[f]at b;simpa using b
     have L:v.bytes=hj:=by unfold kO at g;rw[f]at g;simpa using g
     have hlen:(List.replicate m.toNat k.cells.toList).flatten.length=m.toNat*d:=by simp[j]
     refine⟨.slice (D ⟨w.heap.size,0,I⟩) n.toNat m.toNat,_,_,?_,?_,R⟩
     ·have S:=wrap_i64 p (Int.le_trans af ah);have T:=wrap_i64 (Int.le_trans p af) ah;have ab:¬(m<0\/281474976710656<(hj:Int)*m):=aa;have hzero:=M1 k.cells m.toNat aa;rw[j]at hzero;simp only[Instr.makeSlice,Sem.run_bind,run_underlying hu,Result.andThen_ok,asInt,asIntOf,Sem.run_pure,typeInfo,f,L,S,T,run_program];rw[if_neg (by simp;omega)];simp only[Sem.run_bind,run_askRoom,Result.andThen_ok,run_sizeOf b];by_cases i:m.toNat*d=0
      ·simp only[i,if_true];have M:m.toNat=0:=by rcases Nat.mul_eq_zero.1 i with h|h<;>omega
       have E:Array.range 0= #[]:=rfl;simp[newRow,E,M]
      ·simp only[i,if_false,Sem.run_bind,W,Result.andThen_ok,Sem.run_pure,j,hzero];simp[newRow]
     ·refine bp.aD (ρ:=ρ.dn H.next _) H.next 0 n.toNat (D m.toNat) ⟨w.heap.size,0,d,_⟩ _ m.toNat (Env.gK _ _ _) aa (by simp) (λ_=>⟨by simp,?_⟩)
      simp only[Nat.zero_add,hlen];simp
   ·cases h
  ·cases h
 ·cases h
def zj(P:Program)(t:TypeId)(x:ae):Option ae:=
 match P.underlying t,x with
 |some (.slice _),.aD _ _ _ _ (D k)=>D (.int .i64 k)
 |some (.slice _),.aB=>D (.int .i64 0)
 |_,_=>I
def Nn{t:TypeId}{x v:ae}{b:Value}(ty:TypeId)(h:zj P t x=D v)(aA:bp ρ x b)(w:World):∃r,(Builtin.cap_ #[t] ty #[b]).run P w= .ok r w/\bp ρ v r:=by
 unfold zj at h;split at h
 ·rename_i e l i n esz k hu;cases aA with|aD _ _ _ _ loc a c al aH aq d=>
  obtain rfl:=aq k rfl;simp only[bb]at h;subst h;exact⟨_,by simp[Builtin.cap_,run_underlying hu,goInt],.int _ _⟩
 ·rename_i e hu;cases aA;simp only[bb]at h;subst h;exact⟨_,by simp[Builtin.cap_,run_underlying hu,goInt],.int _ _⟩
 ·cases h
def Ly(b:Nat):∀(xs a:List Value) (o:Nat) (w:World),w.setCells b o (xs++a)=(w.setCells b o xs).setCells b (o+xs.length) a
 |[],a,o,w=>by simp[World.setCells]
 |x::xs,a,o,w=>by
  simp only[List.cons_append,World.setCells];rw[Ly b xs a,List.length_cons,show o+1+xs.length=o+(xs.length+1) by omega]
def oB(H:ad)(l:Nat)(cs:List ae):Nat->Nat->Option ad
 |_,0=>D H
 |i,k+1=>match H.get l with
  |some (.row Z esz els)=>(match els[i]? with
   |some e=>if cs.length=esz then(oB (H.set l (.row Z esz (els.set i (eZ e 0 cs)))) l cs (i+1) k)else I
   |none=>I)
  |_=>I
def F2{l:Nat}{loc:Loc}{cs:List ae}{xs:List Value}(b:bO ρ cs xs)(af:∀v∈cs,v.one=C)(al:ρ l=D loc)(hlen:cs.length=loc.esz):
  ∀(k i:Nat) (H H':ad) (w:World),Rel ρ H w->oB H l cs i k=D H'->Step ρ H w ρ H' (w.setCells loc.block (loc.off+i*loc.esz) (List.replicate k xs).flatten)
 |0,i,H,H',w,a,h=>by
  simp only[oB,bb]at h;subst h;simpa [World.setCells]using Step.refl a
 |k+1,i,H,H',w,a,h=>by
  unfold oB at h;split at h
  ·rename_i esz els aP;split at h
   ·rename_i e he;split at h
    ·rename_i aq;have s1:=MX a (ot:=none) aP al he (c:=0) (cs:=cs) aa af b;have s2:=F2 b af al hlen k (i+1) _ H' _ s1.rel h;have hc:=s1.trans s2;rw[List.replicate_succ,List.flatten_cons,Ly,<-b.length,hlen,show loc.off+i*loc.esz+loc.esz=loc.off+(i+1)*loc.esz by rw[Nat.succ_mul];omega];exact hc
    ·cases h
   ·cases h
  ·cases h
def PH{l:Nat}{cs:List ae}:∀{k i:Nat} {H H':ad},0<k->oB H l cs i k=D H'->∃esz els,H.get l=D (.row Z esz els)/\cs.length=esz
 |0,_,_,_,h,_=>aa
 |k+1,i,H,H',_,h=>by
  unfold oB at h;split at h
  ·rename_i esz els aP;split at h
   ·split at h
    ·rename_i aq;exact⟨esz,els,aP,aq⟩
    ·cases h
   ·cases h
  ·cases h
def uO(P:Program)(H:ad)(ts:List TypeId)(x:ae):Option ad:=
 match ts with
 |[t]=>(match P.underlying t with
  |some (.slice e)=>(match x with
   | .aB=>D H
   | .aD l i n _ _=>if n=0 then D H else(match e2 P e with
    |some z=>if z.cells.all ae.one=C then oB H l z.cells i n else I
    |none=>I)
   |_=>I)
  |_=>I)
 |_=>I
def No(d:Rel ρ H w){ts:List TypeId}{x:ae}{K:Value}{H':ad}(ty:TypeId)(h:uO P H ts x=D H')(aA:bp ρ x K):
  ∃G,(Builtin.clear_ ts.toArray ty #[K]).run P w= .ok (.tuple #[]) G/\Step ρ H w ρ H' G:=by
 unfold uO at h;split at h
 ·rename_i t;split at h
  ·rename_i e hu;split at h
   ·cases aA;simp only[bb]at h;subst h;exact⟨w,by simp[Builtin.clear_,run_underlying hu],Step.refl d⟩
   ·rename_i l i n esz cap;cases aA with|aD _ _ _ _ loc a c al aH aq L=>
    split at h
    ·rename_i g;subst g;simp only[bb]at h;subst h;exact⟨w,by simp[Builtin.clear_,run_underlying hu],Step.refl d⟩
    ·rename_i g;split at h
     ·rename_i z ai;split at h
      ·rename_i T;have s:∀v∈z.cells,v.one=true:=List.all_eq_true.1 T;obtain⟨y,Y,ag⟩:=nt ai w;have f:=(ag ρ).cells;obtain⟨am,els,aP,M⟩:=PH aa h;obtain⟨aj,R,O,arr,t0,an,o,p,ap⟩:=d.row _ _ _ _ aP;obtain rfl:loc=aj:=Option.some.inj (al.symm.trans R);have ar:=p.1;have Q:=p.2 rfl;have hlen:z.cells.length=loc.esz:=by rw[M,O]
       have N:0<c:=aa;obtain⟨rfl,ao⟩:=L N;have E:=F2 f s al hlen n i H H' w d h;have ab:y.cells.toList.length=loc.esz:=by rw[<-f.length];exact hlen
       have k:((List.replicate n y.cells.toList).flatten).length=n*loc.esz:=by simp[ab]<;>rfl
       have q:∀j,j<n*loc.esz->loc.off+i*loc.esz+j<arr.size:=by
        intro j b;have af:(i+c)*loc.esz=i*loc.esz+c*loc.esz:=Nat.add_mul _ _ _;have ah:n*loc.esz<=c*loc.esz:=Nat.mul_le_mul_right _ aH;omega
       have B:=run_storeCells_cells (P:=P) loc.block (loc.off+i*loc.esz) (List.replicate n y.cells.toList).flatten 0 w
        (λj b=>by rw[k]at b;simp[World.cell?,o,q j b])
        (λj b=>by
         rw[k]at b;have:=Q _ (q j b);simp only[World.frozen?,o,Nat.add_zero];simpa using this)
        (λu hu=>by
         obtain⟨au,S,V⟩:=List.mem_flatten.1 hu;obtain rfl:=List.eq_of_mem_replicate S;obtain⟨j,b⟩:=List.getElem?_of_mem V;have r:j<z.cells.length:=by
          rcases Nat.lt_or_ge j y.cells.toList.length with h|h
          ·omega
          ·rw[List.getElem?_eq_none h]at b;cases b
         obtain⟨ak,U,W⟩:=f.get j _ (List.getElem?_eq_getElem r);obtain rfl:u=ak:=Option.some.inj (b.symm.trans U);exact W.Bg (s _ (List.getElem_mem r)))
       rw[<-Eo]at B E;refine⟨_,?_,E⟩;cases n with
       |zero=>omega
       |succ m=>
        simp only[Builtin.clear_];simp[run_underlying hu,Y];rw[B];simp
      ·cases h
     ·cases h
   ·cases h
  ·cases h
 ·cases h
