/-
  Texts of one proof, laid together: Hv7 Hv8 Hv9 Hv10.
-/
import Derived.Test.YtmhhnnklfcbgfaaGreatMA
import Derived.Deep.AppendSrc
set_option linter.unusedVariables false
set_option linter.unusedSimpArgs false
set_option linter.defProp false
open Option renaming some→D,none→Y
open Bool renaming true→V,false→U
namespace Go.bN
section
variable {P:Program}{ρ:Env}{H:ae}{w:World}
def bp(P:Program)(t:TypeId)(x:aa)(f:Nat):Option aa:=
 match P.underlying t,x with
 |some (.struct a),.agg cs=>(match a[f]? with|some d=>apart P d.type cs d.offset|none=>Y)
 |_,_=>Y
def zy{t:TypeId}{x v:aa}{a:Value}{f:Nat}(h:bp P t x f=D v)(i:a1 ρ x a)(w:World):∃r,(Instr.field t a f).run P w= .ok r w/\a1 ρ v r:=by
 unfold bp at h;split at h
 ·rename_i j cs hu;cases i with|agg _ xs e=>
  split at h
  ·rename_i d g;obtain⟨r,b,c⟩:=eI h e w;exact⟨r,by simp[Instr.field,run_underlying hu,g,asAgg,b],c⟩
  ·cases h
 ·cases h
def ak(P:Program)(t:TypeId)(x:aa)(f:Nat):Option aa:=
 match P.underlying t,x with
 |some (.struct a),.ptr l i c=>(match a[f]? with|some d=>(match bu P d.type with|some n=>if n=0 then Y else D (.ptr l i (c+d.offset))|none=>Y)|none=>Y)
 |_,_=>Y
def zx{t:TypeId}{x v:aa}{a:Value}{f:Nat}(h:ak P t x f=D v)(k:a1 ρ x a)(w:World):∃r,(Instr.fieldAt t a f).run P w= .ok r w/\a1 ρ v r:=by
 unfold ak at h;split at h
 ·rename_i m l i c hu;cases k with|ptr _ _ _ loc g=>
  split at h
  ·rename_i d e;split at h
   ·rename_i n j;split at h
    ·cases h
    ·rename_i b;simp only[aV]at h;subst h;refine⟨_,?_,.ptr l i (c+d.offset) loc g⟩;simp[Instr.fieldAt,run_underlying hu,e,Instr.sureAddr,fieldPlace,run_sizeOf j,b,ei,Nat.add_assoc]
   ·cases h
  ·cases h
 ·cases h
def aF(P:Program)(t:TypeId)(x b:aa):Option aa:=
 match P.underlying t,x,b with
 |some (.slice e),.ag l i n esz _,.int _ k=>(match bu P e with|some a=>if a=esz/\0<=k/\k<n then D (.ptr l (i+k.toNat) 0)else Y|none=>Y)
 |some (.array len e),.ptr l i c,.int _ k=>(match bu P e with|some a=>if 0<=k/\k<len then D (.ptr l i (c+k.toNat*a))else Y|none=>Y)
 |_,_,_=>Y
def zz{t:TypeId}{x p v:aa}{u q:Value}(h:aF P t x p=D v)(o:a1 ρ x u)(m:a1 ρ p q)(w:World):∃r,(Instr.indexAt t u q).run P w= .ok r w/\a1 ρ v r:=by
 unfold aF at h;split at h
 ·rename_i e l i n esz cap z k hu;cases m;cases o with|ag _ _ _ _ loc a c g C B y=>
  split at h
  ·rename_i s j;split at h
   ·rename_i f;obtain⟨rfl,b,d⟩:=f;simp only[aV]at h;subst h;obtain⟨rfl,_⟩:=y bj;refine⟨_,?_,.ptr l (i+k.toNat) 0 loc g⟩;have A:loc.off+i*loc.esz+k.toNat*loc.esz=loc.off+(i+k.toNat)*loc.esz+0:=by rw[Nat.add_mul];omega
    simp[Instr.indexAt,asIntOf,run_underlying hu,b,d,run_sizeOf j,ei]
   ·cases h
  ·cases h
 ·rename_i len e l i c z k hu;cases m;cases o with|ptr _ _ _ loc g=>
  split at h
  ·rename_i s j;split at h
   ·rename_i f;obtain⟨b,d⟩:=f;simp only[aV]at h;subst h;refine⟨_,?_,.ptr l i (c+k.toNat*s) loc g⟩;simp[Instr.indexAt,asIntOf,run_underlying hu,Instr.sureAddr,b,d,run_sizeOf j,ei,Nat.add_assoc]
   ·cases h
  ·cases h
 ·cases h
def cj(P:Program)(t:TypeId)(x a:aa):Option aa:=
 match P.underlying t,x,a with
 |some .string,.str s,.int _ k=>if 0<=k then(match s[k.toNat]? with|some b=>D (.int .u8 b.toNat)|none=>Y)else Y
 |some (.array len e),.agg cs,.int _ k=>(match bu P e with|some c=>if 0<=k/\k<len then apart P e cs (k.toNat*c)else Y|none=>Y)
 |_,_,_=>Y
def Az(s:List UInt8)(k:Nat):(⟨s.toArray⟩:ByteArray)[k]? =s[k]? :=by
 simp only[getElem?,decidableGetElem?];by_cases h:k<s.length
 ·have bs:k<(⟨s.toArray⟩:ByteArray).size:=by show k<s.toArray.size;simpa using h
  simp[h,bs];rfl
 ·have bs:¬k<(⟨s.toArray⟩:ByteArray).size:=by show¬k<s.toArray.size;simpa using h
  simp[h,bs]
def zB{t:TypeId}{x d v:aa}{g f:Value}(h:cj P t x d=D v)(c:a1 ρ x g)(a:a1 ρ d f)(w:World):∃r,(Instr.index t g f).run P w= .ok r w/\a1 ρ v r:=by
 unfold cj at h;split at h
 ·rename_i s q k hu;cases a;cases c;split at h
  ·rename_i i;split at h
   ·rename_i b m;simp only[aV]at h;subst h;refine⟨_,?_,.int _ _⟩;simp only[Instr.index,asIntOf,Sem.run_bind,Sem.run_pure,Result.andThen_ok,run_underlying hu,if_pos i,Az,m]
   ·cases h
  ·cases h
 ·rename_i len e cs q k hu;cases a;cases c with|agg _ xs n=>
  split at h
  ·rename_i u p;split at h
   ·rename_i o;obtain⟨r,j,l⟩:=eI h n w;exact⟨r,by simp[Instr.index,asIntOf,run_underlying hu,o,run_sizeOf p,j],l⟩
   ·cases h
  ·cases h
 ·cases h
def cb(x:Option aa)(a y:Nat):Option Nat:=
 match x with
 |none=>D a
 |some (.int _ k)=>if 0<=k/\k<=y then D k.toNat else Y
 |some _=>Y
def c1(P:Program)(t:TypeId)(x:aa)(b a c:Option aa):Option aa:=
 match P.underlying t,x with
 |some .string,.str s=>
  (match c,cb a s.length s.length with
  |none,D h=>(match cb b 0 h with|some l=>D (.str ((s.drop l).take (h-l)))|none=>Y)
  |_,_=>Y)
 |some (.slice e),.ag l i n esz cap=>
  (match bu P e,c with
  |some d,Y=>
   if d=esz then
    (match cb a n (cap.getD n)with
    |some h=>(match cb b 0 h with|some k=>D (.ag l (i+k) (h-k) esz (cap.map (· -k)))|none=>Y)
    |none=>Y)
   else Y
  |some d,D m=>
   if d=esz then
    (match cb (D m) 0 (cap.getD n)with
    |some m=>(match a,cb a 0 m with
     |some _,D h=>(match cb b 0 h with|some k=>D (.ag l (i+k) (h-k) esz (D (m-k)))|none=>Y)
     |_,_=>Y)
    |none=>Y)
   else Y
  |_,_=>Y)
 |some (.slice e),.ar=>
  (match bu P e,c with
  |some _,Y=>(match cb a 0 0 with
   |some h=>(match cb b 0 h with|some _=>D .ar|none=>Y)
   |none=>Y)
  |some _,D m=>(match cb (D m) 0 0 with
   |some m=>(match a,cb a 0 m with
    |some _,D h=>(match cb b 0 h with|some _=>D .ar|none=>Y)
    |_,_=>Y)
   |none=>Y)
  |_,_=>Y)
 |_,_=>Y
inductive gf(ρ:Env):Option aa->Option Value->Prop where
 |none:gf ρ none none
 |some (v:aa) (x:Value) (h:a1 ρ v x):gf ρ (some v) (some x)
def cv{v:aa}{x:Value}{d y k:Nat}(h:cb (D v) d y=D k)(c:a1 ρ v x)(code:BoundsCode){b:Nat}(f:y<=b)(w:World):
  (Instr.sliceBound x b code).run P w= .ok k w/\k<=y:=by
 unfold cb at h;split at h
 ·rename_i a;cases a
 ·rename_i g n a;cases a;cases c;split at h
  ·rename_i e;simp only[aV]at h;subst h;refine⟨?_,bj⟩;simp only[Instr.sliceBound,asIntOf,Sem.run_bind,Sem.run_pure,Result.andThen_ok];rw[if_pos bj];exact Sem.run_pure ..
  ·cases h
 ·cases h
def AP(s:List UInt8)(l h:Nat):(⟨s.toArray⟩:ByteArray).extract l h=⟨((s.drop l).take (h-l)).toArray⟩:=by
 apply ByteArray.ext;simp[ByteArray.data_extract,List.extract_eq_take_drop]
def z1{t:TypeId}{x v:aa}{ae:Value}{ab T ad:Option aa}{z C A:Option Value}(h:c1 P t x ab T ad=D v)(O:a1 ρ x ae)(j:gf ρ ab z)(y:gf ρ T C)(E:gf ρ ad A)(w:World):
  ∃r,(Instr.sliceAt t ae z C A).run P w= .ok r w/\a1 ρ v r:=by
 unfold c1 at h;split at h
 ·rename_i s hu;cases O;have u:(⟨s.toArray⟩:ByteArray).size=s.length:=by show s.toArray.size=_;simp
  split at h
  ·rename_i g f;cases E;split at h
   ·rename_i l p;simp only[aV]at h;subst h;refine⟨_,?_,.str _⟩;have o:∃m,(Instr.sliceBounds U s.length s.length z C Y).run P w= .ok (l,g,m) w:=by
     refine⟨s.length,?_⟩;cases y with
     |none=>
      simp only[cb,aV]at f;subst f;cases j with
      |none=>simp only[cb,aV]at p;subst p;simp[Instr.sliceBounds]
      |some v x b=>simp[Instr.sliceBounds,(cv p b _ (bM _) w).1]
     |some v x b=>
      have:=(cv (P:=P) f b .sliceAlen (bM _) w).1;cases j with
      |none=>simp only[cb,aV]at p;subst p;simp[Instr.sliceBounds,this]
      |some v x b=>simp[Instr.sliceBounds,this,(cv p b _ (bM _) w).1]
    obtain⟨m,o⟩:=o;simp[Instr.sliceAt,Instr.slice,run_underlying hu,u,o,AP]
   ·cases h
  ·cases h
 ·rename_i e l i n esz cap hu;cases O with|ag _ _ _ _ loc a c p an S R=>
  have H:cap.getD n<=c:=by
   cases B:cap with
   |none=>exact an
   |some k=>have:=S k B;simp;omega
  split at h
  ·rename_i Q u;cases E;split at h
   ·rename_i M;subst M;split at h
    ·rename_i g f;split at h
     ·rename_i k d;simp only[aV]at h;subst h;have au:g<=c:=by
       cases y with
       |none=>simp only[cb,aV]at f;omega
       |some v x b=>have:=(cv (P:=P) f b .sliceAcap H w).2;omega
      have W:k<=g:=by
       cases j with
       |none=>simp only[cb,aV]at d;omega
       |some v x b=>exact(cv (P:=P) d b .sliceB (bM _) w).2
      have o:(Instr.sliceBounds V n c z C Y).run P w= .ok (k,g,c) w:=by
       cases y with
       |none=>
        simp only[cb,aV]at f;subst f;cases j with
        |none=>simp only[cb,aV]at d;subst d;simp[Instr.sliceBounds]
        |some v x b=>simp[Instr.sliceBounds,(cv d b _ (bM _) w).1]
       |some v x b=>
        have:=(cv (P:=P) f b .sliceAcap H w).1;cases j with
        |none=>simp only[cb,aV]at d;subst d;simp[Instr.sliceBounds,this]
        |some v x b=>simp[Instr.sliceBounds,this,(cv d b _ (bM _) w).1]
      refine⟨.slice (D (if c=k then a else a.add (k*loc.esz))) (g-k) (c-k),?_,?_⟩
      ·simp[Instr.sliceAt,Instr.slice,run_underlying hu,o,run_sizeOf u];split<;>rfl
      ·refine .ag l (i+k) (g-k) _ loc _ (c-k) p bj (λm hm=> ?_) (λao=> ?_)
       ·cases B:cap with
        |none=>rw[B]at hm;cases hm
        |some q=>rw[B]at hm;simp at hm;have:=S q B;omega
       ·obtain⟨rfl,K⟩:=R bj;rw[if_neg bj,ei];refine⟨?_,?_⟩
        ·congr 1;rw[Nat.add_mul];omega
        ·rw[show i+k+(c-k)=i+c by omega];exact K
     ·cases h
    ·cases h
   ·cases h
  ·rename_i Q aq u;cases E with|some _ A L=>
   split at h
   ·rename_i M;subst M;split at h
    ·rename_i m hm;obtain⟨G,am⟩:=cv (P:=P) hm L .slice3Acap H w;split at h
     ·rename_i b g f;cases y with|some _ x N=>
      obtain⟨F,ai⟩:=cv (P:=P) f N .slice3B (bM _) w;split at h
      ·rename_i k d;simp only[aV]at h;subst h;have W:k<=g:=by
        cases j with
        |none=>simp only[cb,aV]at d;omega
        |some v x b=>exact(cv (P:=P) d b .sliceB (bM _) w).2
       have o:(Instr.sliceBounds V n c z (D x) (D A)).run P w= .ok (k,g,m) w:=by
        cases j with
        |none=>simp only[cb,aV]at d;subst d;simp[Instr.sliceBounds,G,F]
        |some v x b=>simp[Instr.sliceBounds,G,F,(cv d b _ (bM _) w).1]
       refine⟨.slice (D (if m=k then a else a.add (k*loc.esz))) (g-k) (m-k),?_,?_⟩
       ·simp[Instr.sliceAt,Instr.slice,run_underlying hu,o,run_sizeOf u];split<;>rfl
       ·refine .ag l (i+k) (g-k) _ loc _ (m-k) p bj (λq ap=>by simpa using ap) (λao=> ?_);obtain⟨rfl,K⟩:=R bj;rw[if_neg bj,ei];refine⟨?_,?_⟩
        ·congr 1;rw[Nat.add_mul];omega
        ·refine Nat.le_trans (Nat.add_le_add_left (Nat.mul_le_mul_right _ ?_) _) K;omega
      ·cases h
     ·cases h
    ·cases h
   ·cases h
  ·cases h
 ·rename_i e hu;cases O;split at h
  ·rename_i Q u;cases E;split at h
   ·rename_i g f;split at h
    ·rename_i k d;simp only[aV]at h;subst h;have af:g=0:=by
      cases y with
      |none=>simp only[cb,aV]at f;omega
      |some v x b=>have:=(cv (P:=P) f b .sliceAcap (bM _) w).2;omega
     subst af;have aj:k=0:=by
      cases j with
      |none=>simp only[cb,aV]at d;omega
      |some v x b=>have:=(cv (P:=P) d b .sliceB (bM _) w).2;omega
     subst aj;refine⟨.slice Y 0 0,?_,.ar⟩;have o:(Instr.sliceBounds V 0 0 z C Y).run P w= .ok (0,0,0) w:=by
      cases y with
      |none=>
       cases j with
       |none=>simp[Instr.sliceBounds]
       |some v x b=>simp[Instr.sliceBounds,(cv d b _ (bM _) w).1]
      |some v x b=>
       have:=(cv (P:=P) f b .sliceAcap (bM _) w).1;cases j with
       |none=>simp[Instr.sliceBounds,this]
       |some v x b=>simp[Instr.sliceBounds,this,(cv d b _ (bM _) w).1]
     simp[Instr.sliceAt,Instr.slice,run_underlying hu,o,run_sizeOf u]
    ·cases h
   ·cases h
  ·rename_i Q aq u;cases E with|some _ A L=>
   split at h
   ·rename_i m hm;obtain⟨G,am⟩:=cv (P:=P) hm L .slice3Acap (bM _) w;split at h
    ·rename_i b g f;cases y with|some _ x N=>
     obtain⟨F,ai⟩:=cv (P:=P) f N .slice3B (bM _) w;split at h
     ·rename_i k d;simp only[aV]at h;subst h;have W:k<=g:=by
       cases j with
       |none=>simp only[cb,aV]at d;omega
       |some v x b=>exact(cv (P:=P) d b .sliceB (bM _) w).2
      have al:m=0:=bj;have ah:g=0:=bj;have ak:k=0:=bj;subst al;subst ah;subst ak;have o:(Instr.sliceBounds V 0 0 z (D x) (D A)).run P w= .ok (0,0,0) w:=by
       cases j with
       |none=>simp[Instr.sliceBounds,G,F]
       |some v x b=>simp[Instr.sliceBounds,G,F,(cv d b _ (bM _) w).1]
      exact⟨.slice Y 0 0,by simp[Instr.sliceAt,Instr.slice,run_underlying hu,o,run_sizeOf u],.ar⟩
     ·cases h
    ·cases h
   ·cases h
  ·cases h
 ·cases h
end
section
variable {P:Program}{ρ:Env}{H:ae}{w:World}
def wo(c:Array Value):∀(d:List aa) (aw:Nat),(∀(j:Nat) (v:aa),d[j]? =D v->v.one=V/\∃x,c[aw+j]? =D x/\a1 ρ v x)->
  ∃xs:List Value,bb ρ d xs/\(∀j u,xs[j]? =D u->c[aw+j]? =D u)/\∀u∈xs,u.oneCell'=V
 |[],_,_=>⟨[],.nil,λj u h=>by simp at h,λu h=>by cases h⟩
 |v::d,aw,h=>by
  obtain⟨i,x,k,b⟩:=h 0 v rfl;obtain⟨xs,e,f,g⟩:=wo c d (aw+1) (λj u a=>by have:=h (j+1) u (by simpa using a);rwa[show aw+(j+1)=aw+1+j by omega]at this);refine⟨x::xs,.cons _ _ _ _ b e,?_,?_⟩
  ·intro j u a;cases j with
   |zero=>simp at a;subst a;exact k
   |succ j=>rw[show aw+(j+1)=aw+1+j by omega];exact f j u (by simpa using a)
  ·intro u hu;rcases List.mem_cons.1 hu with rfl|hu
   ·exact b.sE i
   ·exact g u hu
def yv(c:Array Value)(esz:Nat):∀(els:List (List aa)) (aw:Nat),(∀(i:Nat) (e:List aa),els[i]? =D e->e.length=esz/\∀(j:Nat) (v:aa),e[j]? =D v->v.one=V/\∃x,c[aw+i*esz+j]? =D x/\a1 ρ v x)->
  ∃xs:List Value,bb ρ els.flatten xs/\(∀j u,xs[j]? =D u->c[aw+j]? =D u)/\∀u∈xs,u.oneCell'=V
 |[],_,_=>⟨[],by simpa using bb.nil,λj u h=>by simp at h,λu h=>by cases h⟩
 |d::els,aw,h=>by
  obtain⟨p,n⟩:=h 0 d rfl;obtain⟨b,f,g,a3⟩:=wo c d aw (λj v a=>by simpa using n j v a);obtain⟨xs,k,l,m⟩:=yv c esz els (aw+esz) (λi e he=>by
   have:=h (i+1) e (by simpa using he);rw[Nat.succ_mul]at this;refine⟨this.1,λj v a=> ?_⟩;have:=this.2 j v a;rwa[show aw+(i*esz+esz)+j=aw+esz+i*esz+j by omega]at this)
  have q:=f.length;refine⟨b++xs,by simpa using f.append k,?_,?_⟩
  ·intro j u a;by_cases o:j<b.length
   ·rw[List.getElem?_append_left o]at a;exact g j u a
   ·rw[List.getElem?_append_right bj]at a;have:=l _ u a;rwa[show aw+esz+(j-b.length)=aw+j by omega]at this
  ·intro u hu;rcases List.mem_append.1 hu with hu|hu
   ·exact a3 u hu
   ·exact m u hu
def du(H:ae)(l i n esz:Nat):Option (List (List aa)):=
 match H.get l with
 |some (.row _ a els)=>if a=esz/\i+n<=els.length then D ((els.drop i).take n)else Y
 |some (.bS _ a els)=>if a=esz/\i+n<=els.length then D ((els.drop i).take n)else Y
 |_=>Y
def nL{els:List (List aa)}{i n k:Nat}{e:List aa}(h:((els.drop i).take n)[k]? =D e):els[i+k]? =D e:=by
 rw[List.getElem?_take]at h;split at h
 ·rw[List.getElem?_drop]at h;exact h
 ·cases h
def vR{ro:Bool}{i n:Nat}{loc:Loc}{l:Nat}{els a:List (List aa)}(x:cl ρ w loc ro l els)(h:(if l=loc.esz/\i+n<=els.length then D ((els.drop i).take n)else Y)=D a):
  a.length=n/\(∀e∈a,e.length=loc.esz)/\(∀e∈a,∀v∈e,v.one=V)/\
  ∃xs:List Value,bb ρ a.flatten xs/\xs.length=n*loc.esz/\(∀j u,xs[j]? =D u->w.cell? ⟨loc.block,loc.off+i*loc.esz+j,Y⟩=D u)/\∀u∈xs,u.oneCell'=true:=by
 ·split at h
  ·rename_i s;obtain⟨rfl,hle⟩:=s;simp only[aV]at h;subst h;obtain⟨_,c,t,z,r,_,f⟩:=x;have hlen:((els.drop i).take n).length=n:=by simp;omega
   have m:∀e∈(els.drop i).take n,e.length=loc.esz:=λe he=>by
    obtain⟨k,d⟩:=List.getElem?_of_mem he;exact(f _ e (nL d)).1
   have q:∀e∈(els.drop i).take n,∀v∈e,v.one=true:=λe he v y=>by
    obtain⟨k,d⟩:=List.getElem?_of_mem he;obtain⟨j,b⟩:=List.getElem?_of_mem y;exact((f _ e (nL d)).2 j v b).1
   refine⟨hlen,m,q,?_⟩;obtain⟨xs,g,o,p⟩:=yv (ρ:=ρ) c loc.esz ((els.drop i).take n) (loc.off+i*loc.esz) (λk e d=>by
    have:=f _ e (nL d);refine⟨this.1,λj v b=> ?_⟩;have:=this.2 j v b;rwa[Nat.add_mul,<-Nat.add_assoc]at this)
   refine⟨xs,g,by rw[<-g.length,eO m,hlen],λj u b=> ?_,p⟩;simp[World.cell?,r,o j u b]
  ·cases h
def rJ(g:Rel ρ H w){l i n:Nat}{loc:Loc}{a:List (List aa)}(h:du H l i n loc.esz=D a)(k:ρ l=D loc):
  a.length=n/\(∀e∈a,e.length=loc.esz)/\(∀e∈a,∀v∈e,v.one=V)/\
  ∃xs:List Value,bb ρ a.flatten xs/\xs.length=n*loc.esz/\(∀j u,xs[j]? =D u->w.cell? ⟨loc.block,loc.off+i*loc.esz+j,Y⟩=D u)/\∀u∈xs,u.oneCell'=true:=by
 unfold du at h;split at h
 ·rename_i ro m els b;obtain⟨f,c,d⟩:=g.row _ _ _ _ b;obtain rfl:loc=f:=Option.some.inj (k.symm.trans c);exact vR d h
 ·rename_i t m els b;obtain⟨f,c,d,_⟩:=g.bS _ _ _ _ b;obtain rfl:loc=f:=Option.some.inj (k.symm.trans c);exact vR d h
 ·cases h
def rS(P:Program)(H:ae)(c:TypeId)(esz:Nat)(x:aa):Option (List (List aa)):=
 match P.underlying c,x with
 |some (.slice _),.ag l i n a _=>if a=esz then(if n=0 then D []else du H l i n esz)else Y
 |some (.slice _),.ar=>D []
 |some .string,.str s=>if esz=1 then D (s.map λb=>[.int .u8 b.toNat])else Y
 |_,_=>Y
def Ay(s:List UInt8):bb ρ ((s.map λb=>[aa.int .u8 b.toNat]).flatten) (byteCells ⟨s.toArray⟩):=by
 unfold byteCells;show bb ρ _ (s.map _)
 induction s with
 |nil=>exact .nil
 |cons b s a=>exact .cons _ _ _ _ (.int _ _) a
def zQ(B:Rel ρ H w){o:TypeId}{esz:Nat}{x:aa}{p:Value}{b:List (List aa)}(h:rS P H o esz x=D b)(k:a1 ρ x p):
  (∀e∈b,e.length=esz)/\(∀e∈b,∀v∈e,v.one=V)/\∃news:List Value,bb ρ b.flatten news/\Src P esz o p b.length news w:=by
 unfold rS at h;split at h
 ·rename_i e l i n K cap hu;split at h
  ·rename_i he;subst he;cases k with|ag _ _ _ _ loc a c E M L C=>
   by_cases f:n=0
   ·subst f;simp only[if_true,aV]at h;subst h;exact⟨by simp,by simp,[],by simpa using bb.nil,Src.ofSlice w hu a 0 c [] (by simp) (λj u d=>by simp at d) (λu hu=>by cases hu)⟩
   rw[if_neg f]at h;obtain⟨q,r,t,xs,y,g,z,A⟩:=rJ B h E;refine⟨r,t,xs,y,?_⟩;rw[q];refine Src.ofSlice w hu a n c xs g (λj u d=> ?_) A;have F:0<c:=by
    rcases Nat.eq_zero_or_pos c with m|m
    ·have f:n=0:=bj;rw[f]at g;have:xs=[]:=List.eq_nil_of_length_eq_zero (by simpa using g);subst this;simp at d
    ·exact m
   obtain⟨rfl,_⟩:=C F;rw[ei];exact z j u d
  ·cases h
 ·rename_i e hu;cases k;simp only[aV]at h;subst h;exact⟨by simp,by simp,[],by simpa using bb.nil,Src.ofNil w hu 0⟩
 ·rename_i s hu;split at h
  ·rename_i he;subst he;cases k;simp only[aV]at h;subst h;refine⟨by simp,by simp[aa.one],_,Ay s,?_⟩;have:=Src.ofString w hu (⟨s.toArray⟩:ByteArray);have G:(⟨s.toArray⟩:ByteArray).size=s.length:=by show s.toArray.size=_;simp
   rw[G]at this;simpa using this
  ·cases h
 ·cases h
def ff(P:Program)(t:TypeId):Option Nat:=(P.info? t).map (·.bytes)
def rU(x:aa)(e:TypeId):Option TypeId:=match x with
 | .str _=>D e
 |_=>Y
def zS{x:aa}{e:TypeId}:∀a,rU x e=D a->a=e:=by
 intro a h;unfold rU at h;split at h
 ·exact(Option.some.inj h).symm
 ·cases h
def so(P:Program)(t:TypeId):Bool:=match P.underlying t with
 |some (.int .i64)=>V
 |_=>U
def Eb{P:Program}{t:TypeId}(h:so P t=V):P.underlying t=D (.int .i64):=by
 unfold so at h;split at h
 ·assumption
 ·cases h
def rP(P:Program)(H:ae)(e:TypeId)(s x:aa):Option (aa×ae):=
 match s,x with
 | .ar,.int .i64 (.ofNat n)=>(match bu P e,ff P e,cy P e with
  |some esz,D a,D z=>
   if 0<n/\z.cells.length=esz/\0<esz/\z.cells.all aa.one=V/\n*a<=140737488355328/\n<=1125899906842624 then D (.ag H.next 0 n esz Y,H.push (.row U esz (List.replicate n z.cells)))else Y
  |_,_,_=>Y)
 |_,_=>Y
def bJ(P:Program)(H:ae)(ts:List TypeId)(s x:aa):Option (aa×ae):=
 match ts with
 |[t,c]=>
  (match P.underlying t with
  |some (.slice e)=>
   if so P c=V then rP P H e s x else
   (match bu P e,ff P e,cy P e with
   |some esz,D b,D z=>
    (match rS P H c esz x with
    |some a=>
     if z.cells.length=esz/\0<esz then
      (match s with
      | .ar=>if a.length=0 then D (.ar,H)else
       if a.length*b<=140737488355328/\a.length<=9223372036854775807 then D (.ag H.next 0 a.length esz Y,H.push (b8 (rU x e) esz a))else Y
      | .ag l i n d cap=>
       if d=esz then
        if a.length=0 then D (s,H)
        else if(n+a.length)*b<=140737488355328/\n+a.length<=9223372036854775807 then
         (match du H l i n esz with
         |some os=>
          if cap.any (· <n+a.length)=V then D (.ag H.next 0 (n+a.length) esz Y,H.push (.row U esz (os++a)))
          else if cap=Y then
           (match H.get l with
           |some (.row U _ _)=>D (.ag H.next 0 (n+a.length) esz Y,(H.set l .dead).push (.row U esz (os++a)))
           |some (.bS t0 _ _)=>if t0=e/\i=0 then D (.ag H.next 0 (n+a.length) esz Y,(H.set l .dead).push (.bS t0 esz (os++a)))else Y
           |_=>Y)
          else Y
         |none=>Y)
        else Y
       else Y
      |_=>Y)
     else Y
    |none=>Y)
   |_,_,_=>Y)
  |_=>Y)
 |_=>Y
def yy(w:World)(t d ty e:TypeId)(i:P.underlying t=D (.slice e)){esz:Nat}(h:bu P e=D esz)(base:Option Addr)(n c:Nat)(g:n<=c)(x:Value)(a:Src P esz d x 0 [] w):
  (Builtin.append_ #[t,d] ty #[.slice base n c,x]).run P w= .ok (.slice base n c) w:=by
 have f:=a.cells;rcases a.kind with⟨j,b⟩|b<;>cases base<;>
  simp[Builtin.append_,run_underlying i,run_underlying b,run_sizeOf h,a.len,g,f,storeCells]
def sj(B:Rel ρ H w)(F:ρ H.next=Y){ot:Option TypeId}{t j e:TypeId}(M:∀u,ot=D u->u=e)(ty:TypeId)(Q:P.underlying t=D (.slice e)){esz m:Nat}{z:aa}(g:bu P e=D esz)(f:ff P e=D m)(h:cy P e=D z)
  (S:z.cells.length=esz) (aj:0<esz)
  {a os:List (List aa)} (d1:∀e∈a,e.length=esz) (d2:∀e∈a,∀v∈e,v.one=V) {news:List Value} (d3:bb ρ a.flatten news) {l:Value} (O:Src P esz j l a.length news w)
  (q:∀e∈os,e.length=esz) (ah:∀e∈os,∀v∈e,v.one=V) {olds:List Value} (s:bb ρ os.flatten olds) (base:Option Addr) (n c:Nat) (L:os.length=n)
  (hold:(Builtin.firstCells esz n (.slice base n c)).run P w.drew= .ok olds.toArray w.drew) (o:c<n+a.length) (E:(n+a.length)*m<=140737488355328) (ai:n+a.length<=9223372036854775807):
  ∃r x y,(Builtin.append_ #[t,j] ty #[.slice base n c,l]).run P w= .ok r x/\a1 y (.ag H.next 0 (n+a.length) esz Y) r/\Step ρ H w y (H.push (b8 ot esz (os++a))) x:=by
 unfold cy at h;unfold bu at g;unfold ff at f;simp only[bZ]at h;obtain⟨i,p,d,W,ab⟩:=h;rw[p]at g f;simp only[Option.map_some,aV]at g f;subst g;subst f;have R:=(nH ab ρ).cells;have T:d.cells.size=i.size:=by have:=R.length;rw[S]at this;simpa using this.symm
 have N:=run_append_grow_src (P:=P) w t j ty e i d Q p W base n c olds hold l a.length news O o bj (growslice_fits o E);have C:Rel ρ H w.drew:=B.drew;have b:=hU (w:=w.drew) C F (ot:=ot) (esz:=i.size) (els:=os++a) (λe he=>(List.mem_append.1 he).elim (q e) (d1 e)) (λe he=>(List.mem_append.1 he).elim (ah e) (d2 e))
  (xs:=olds++news) (tail:=(Builtin.zeroCells d.cells (grownCap w (n+a.length) c e-(n+a.length))).toList) (by simpa using s.append d3) e M
 have A:((olds++news)++(Builtin.zeroCells d.cells (grownCap w (n+a.length) c e-(n+a.length))).toList).toArray=(olds++news).toArray++Builtin.zeroCells d.cells (grownCap w (n+a.length) c e-(n+a.length)):=by
  apply Array.ext';simp
 rw[A]at b;refine⟨_,_,_,N,?_,⟨b.le,b.next,b.cD,b.rel,b.os,b.tape,b.output,b.size,b.frame,b.own,b.ro⟩⟩;have G:=grownCap_ge w (n+a.length) c e;refine a1.ag (ρ:=ρ.b2 H.next _) H.next 0 (n+a.length) Y _ _ (grownCap w (n+a.length) c e) (Env.ct _ _ _) G (λk K=>by cases K) (λ_=>⟨by show(⟨w.heap.size,0,Y⟩:Addr)=⟨w.heap.size,0+0*i.size,Y⟩;simp,?_⟩)
 have ad:olds.length=n*i.size:=by rw[<-s.length,eO q,L]
 have ae:news.length=a.length*i.size:=by rw[<-d3.length,eO d1]
 have af:(Builtin.zeroCells d.cells (grownCap w (n+a.length) c e-(n+a.length))).size=(grownCap w (n+a.length) c e-(n+a.length))*i.size:=by rw[size_zeroCells,T]
 simp only[Nat.zero_add,List.length_append,ad,ae,Array.length_toList,af];rw[<-Nat.add_mul,<-Nat.add_mul];exact Nat.mul_le_mul_right _ bj
def JU(z:Rel ρ H w)(ax:ρ H.next=Y){ot:Option TypeId}{l i n esz:Nat}{els:List (List aa)}(C:H.get l=D (b8 ot esz els)){loc:Loc}(N:ρ l=D loc)(aQ:i+n<=els.length)
  {d:List (List aa)} (d1:∀e∈d,e.length=esz) (d2:∀e∈d,∀v∈e,v.one=V) {news:List Value} (d3:bb ρ d.flatten news) (aP:loc.off+(i+n+d.length)*esz<=loc.size) (aE:∀r,ot=D r->i=0):
  Step ρ H w (ρ.b2 H.next ⟨loc.block,loc.off+i*esz,esz,loc.size⟩) ((H.set l .dead).push (b8 ot esz ((els.drop i).take n++d))) (w.setCells loc.block (loc.off+(i+n)*esz) news):=by
 have aC:=ae.dz C;obtain⟨f,m,⟨_,arr,t,ah,R,al,aH⟩,aK⟩:=nE z C;obtain rfl:loc=f:=Option.some.inj (N.symm.trans m);have aI:=al.1;have ay:=al.2 rfl;have hle:=Env.gH ax ⟨loc.block,loc.off+i*esz,esz,loc.size⟩;have aS:news.length=d.length*esz:=by rw[<-d3.length,eO d1]
 obtain⟨s1,s2,g5,qG⟩:=vx loc.block news (loc.off+(i+n)*esz) w;have y:∀k,k≠H.next->k≠l->((H.set l .dead).push (b8 ot esz ((els.drop i).take n++d))).get k=H.get k:=λk B o=>by
  rw[ae.cp (by simpa using B),ae.cx (Ne.symm o)]
 have u:((H.set l .dead).push (b8 ot esz ((els.drop i).take n++d))).get l=D .dead:=by
  rw[ae.cp (by simp;omega),ae.dn aC]
 have L:((H.set l .dead).push (b8 ot esz ((els.drop i).take n++d))).get H.next=D (b8 ot esz ((els.drop i).take n++d)):=ae.cJ (H.set l .dead) _
 have aq:∀k,((H.set l .dead).push (b8 ot esz ((els.drop i).take n++d))).rw k->k≠H.next->H.rw k/\k≠l:=λk h a=>by
  have c:k≠l:=by rintro rfl;rcases h with⟨_,_,h⟩|⟨_,h⟩|⟨_,_,_,h⟩<;>(rw[u]at h;cases h)
  simpa [ae.rw,y k a c,c]using h
 have an:∀k,((H.set l .dead).push (b8 ot esz ((els.drop i).take n++d))).live k->k≠H.next->H.live k/\k≠l:=λk h a=>by
  have c:k≠l:=by rintro rfl;rcases h with⟨_,_,_,h⟩|⟨_,h⟩|⟨_,_,_,h⟩<;>(rw[u]at h;cases h)
  simpa [ae.live,y k a c,c]using h
 have E:∀k f,H.live k->k≠l->ρ k=D f->f.block≠loc.block:=λk f h bs e heq=>
  z.apart l k loc f (fE C) h (Ne.symm bs) N e heq.symm
 have key:cl (ρ.b2 H.next ⟨loc.block,loc.off+i*esz,esz,loc.size⟩) (w.setCells loc.block (loc.off+(i+n)*esz) news) ⟨loc.block,loc.off+i*esz,esz,loc.size⟩ U esz ((els.drop i).take n++d)/\
   (w.setCells loc.block (loc.off+(i+n)*esz) news).heap[loc.block]? =D (.cells (cV arr (loc.off+(i+n)*esz) news) t ah):=by
  refine⟨⟨rfl,_,t,ah,m4 _ _ _ _ _ _ _ R,⟨by rw[hV];exact aI,λ_=>by rw[hV];exact ay⟩,?_⟩,m4 _ _ _ _ _ _ _ R⟩;intro q e he;have aB:((els.drop i).take n).length=n:=by simp;omega
  by_cases aT:q<n
  ·rw[List.getElem?_append_left bj]at he;have aw:=nL he;obtain⟨a0,O⟩:=aH _ e aw;refine⟨a0,λj v g=> ?_⟩;obtain⟨P,x,G,F⟩:=O j v g;refine⟨P,x,?_,F.mono hle⟩;have az:j<esz:=by
    rcases Nat.lt_or_ge j e.length with h|h
    ·omega
    ·rw[List.getElem?_eq_none h]at g;cases g
   show(cV arr (loc.off+(i+n)*esz) news)[loc.off+i*esz+q*esz+j]? =D x;rw[gM _ _ _ _ (by have:=hL (n:=esz) (show i+q<i+n by omega);rw[Nat.add_mul]at this;omega)];rw[show loc.off+i*esz+q*esz+j=loc.off+(i+q)*esz+j by rw[Nat.add_mul];omega];exact G
  ·rw[List.getElem?_append_right bj,aB]at he;refine⟨d1 e (List.mem_of_getElem? he),λj v g=> ?_⟩;obtain⟨x,G,F⟩:=d3.get _ _ (sc d1 he g);refine⟨d2 e (List.mem_of_getElem? he) v (List.mem_of_getElem? g),x,?_,F.mono hle⟩;have aF:q-n<d.length:=by
    rcases Nat.lt_or_ge (q-n) d.length with h|h
    ·exact h
    ·rw[List.getElem?_eq_none h]at he;cases he
   have az:j<esz:=by
    have:=d1 e (List.mem_of_getElem? he);rcases Nat.lt_or_ge j e.length with h|h
    ·omega
    ·rw[List.getElem?_eq_none h]at g;cases g
   have aO:=hL (n:=esz) aF;have aR:(i+n+d.length)*esz=(i+n)*esz+d.length*esz:=Nat.add_mul _ _ _;have:=nM news arr (loc.off+(i+n)*esz) ((q-n)*esz+j) x G bj;show(cV arr (loc.off+(i+n)*esz) news)[loc.off+i*esz+q*esz+j]? =D x;rw[show loc.off+i*esz+q*esz+j=loc.off+(i+n)*esz+((q-n)*esz+j) by
    have:q*esz=n*esz+(q-n)*esz:=by rw[<-Nat.add_mul];congr 1;omega
    rw[Nat.add_mul];omega]
   exact this
 refine⟨hle,by simp,λk a=>Env.cu (by simp at a;omega),⟨?_,?_,?_,?_⟩,s2,g5,qG,Nat.le_of_eq s1.symm,?_,?_,?ro⟩
 case ro=>
  intro k af ad h;by_cases a:k=H.next
  ·subst a;rw[L]at h;have:=sx ot esz ((els.drop i).take n++d);rw[Option.some.inj h]at this;cases this
  ·by_cases c:k=l
   ·subst c;rw[u]at h;cases h
   ·rwa[y k a c]at h
 ·intro k aV af ad h;by_cases a:k=H.next
  ·subst a;rw[L]at h;obtain⟨rfl,rfl,rfl,-⟩:=sy (Option.some.inj h);exact⟨_,Env.ct _ _ _,key.1⟩
  ·by_cases c:k=l
   ·subst c;rw[u]at h;cases h
   ·rw[y k a c]at h;obtain⟨f,m,aL,au,r,av,T,W,ab⟩:=z.row _ _ _ _ h;have p:=E k f (.inl ⟨_,_,_,h⟩) c m;refine⟨f,by rw[Env.cu a];exact m,aL,au,r,av,by rw[ea _ _ _ _ _ p];exact T,W,?_⟩;intro q e he;obtain⟨a0,O⟩:=ab q e he;refine⟨a0,λj v g=> ?_⟩;obtain⟨P,x,G,F⟩:=O j v g;exact⟨P,x,G,F.mono hle⟩
 ·intro k es h;by_cases a:k=H.next
  ·subst a;rw[L]at h;exact(sw (Option.some.inj h)).elim
  ·by_cases c:k=l
   ·subst c;rw[u]at h;cases h
   ·rw[y k a c]at h;obtain⟨f,m,ents,clock,T,W,ab⟩:=z.map _ _ h;have p:=E k f (.inr (.inl ⟨_,h⟩)) c m;exact⟨f,by rw[Env.cu a];exact m,ents,clock,by rw[ea _ _ _ _ _ p];exact T,W.mono hle,ab.mono hle⟩
 ·intro k r af ad h;by_cases a:k=H.next
  ·subst a;rw[L]at h;obtain⟨ai,rfl,rfl⟩:=sz (Option.some.inj h);obtain⟨aM,aN,ak,aU⟩:=aK r ai;obtain rfl:=aE r ai;have aJ:r=t:=by rw[R]at ak;cases ak;rfl
   subst aJ;exact⟨_,Env.ct _ _ _,key.1,_,_,key.2,by show loc.off+0*esz=0;omega⟩
  ·by_cases c:k=l
   ·subst c;rw[u]at h;cases h
   ·rw[y k a c]at h;obtain⟨f,m,aG⟩:=z.bS _ _ _ _ h;have p:=E k f (.inr (.inr ⟨_,_,_,h⟩)) c m;exact⟨f,by rw[Env.cu a];exact m,aG.frame hle (ea _ _ _ _ _ p)⟩
 ·intro k K ao ap B o p A s;by_cases a:k=H.next
  ·subst a;rw[Env.ct]at A;obtain rfl:=Option.some.inj A;obtain⟨Q,am⟩:=an K o (Ne.symm p);rw[Env.cu (Ne.symm p)]at s;exact(E K ap Q am s).symm
  ·obtain⟨M,aA⟩:=aq k B a;rw[Env.cu a]at A;by_cases S:K=H.next
   ·subst S;rw[Env.ct]at s;obtain rfl:=Option.some.inj s;exact E k ao M.live aA A
   ·obtain⟨Q,am⟩:=an K o S;rw[Env.cu S]at s;exact z.apart k K ao ap M Q p A s
 ·intro b _ aD;refine ea _ _ _ _ _ ?_;rintro rfl;exact aD ⟨l,loc,fE C,N,rfl⟩
 ·rintro b ⟨k,f,B,o,aj⟩;by_cases a:k=H.next
  ·subst a;rw[Env.ct]at o;obtain rfl:=Option.some.inj o;exact .inl ⟨l,loc,fE C,N,aj⟩
  ·obtain⟨M,_⟩:=aq k B a;rw[Env.cu a]at o;exact .inl ⟨k,f,M,o,aj⟩
def Step.dead{r:Env}{f d:ae}{q:World}(h:Step ρ H w r f q)(o:d.next=f.next)(n:∀k,d.get k=f.get k\/d.get k=D .dead):Step ρ H w r d q:=by
 have g:∀k ro esz els,d.get k=D (.row ro esz els)->f.get k=D (.row ro esz els):=λk ro esz els e=>by
  rcases n k with h|h
  ·rw[<-h];exact e
  ·rw[h]at e;cases e
 have get_map:∀k es,d.get k=D (.map es)->f.get k=D (.map es):=λk es e=>by
  rcases n k with h|h
  ·rw[<-h];exact e
  ·rw[h]at e;cases e
 have i:∀k t esz els,d.get k=D (.bS t esz els)->f.get k=D (.bS t esz els):=λk t esz els e=>by
  rcases n k with h|h
  ·rw[<-h];exact e
  ·rw[h]at e;cases e
 have p:∀k,d.rw k->f.rw k:=λk h=>by
  rcases h with⟨a,b,h⟩|⟨a,h⟩|⟨a,b,c,h⟩
  ·exact .inl ⟨a,b,g _ _ _ _ h⟩
  ·exact .inr (.inl ⟨a,get_map _ _ h⟩)
  ·exact .inr (.inr ⟨a,b,c,i _ _ _ _ h⟩)
 have v:∀k,d.live k->f.live k:=λk h=>by
  rcases h with⟨a,b,c,h⟩|⟨a,h⟩|⟨a,b,c,h⟩
  ·exact .inl ⟨a,b,c,g _ _ _ _ h⟩
  ·exact .inr (.inl ⟨a,get_map _ _ h⟩)
  ·exact .inr (.inr ⟨a,b,c,i _ _ _ _ h⟩)
 refine⟨h.le,by rw[o];exact h.next,λl u=>h.cD l (by rw[<-o];exact u),⟨λl ro esz els e=>h.rel.row l ro esz els (g _ _ _ _ e),λl es e=>h.rel.map l es (get_map _ _ e),λl t esz els e=>h.rel.bS l t esz els (i _ _ _ _ e),λl x a b j m=>h.rel.apart l x a b (p _ j) (v _ m)⟩,h.os,h.tape,h.output,h.size,h.frame,?_,λk esz els e=>h.ro k esz els (g _ _ _ _ e)⟩;rintro b ⟨l,loc,j,m,s⟩;exact h.own b ⟨l,loc,p _ j,m,s⟩
def zt{ot:Option TypeId}{l i n esz b:Nat}{els os:List (List aa)}(c:H.get l=D (b8 ot b els))(h:du H l i n esz=D os):b=esz/\i+n<=els.length/\os=(els.drop i).take n:=by
 unfold du at h;cases ot with
 |none=>
  rw[c]at h;simp only[b8]at h;split at h
  ·rename_i a;exact⟨a.1,a.2,(Option.some.inj h).symm⟩
  ·cases h
 |some t=>
  rw[c]at h;simp only[b8]at h;split at h
  ·rename_i a;exact⟨a.1,a.2,(Option.some.inj h).symm⟩
  ·cases h
def wP(s:Rel ρ H w)(G:ρ H.next=Y){ot:Option TypeId}{t A e:TypeId}(av:∀o,ot=D o->o=e)(ty:TypeId)(hu:P.underlying t=D (.slice e)){C:Nat}{z:aa}{l i n:Nat}{cap:Option Nat}{loc:Loc}{a os:List (List aa)}(aG:cap=Y)(aH:¬a.length=0)(b:bu P e=D loc.esz)(ai:ff P e=D C)(ay:cy P e=D z)
  (az:z.cells.length=loc.esz) (aw:0<loc.esz)
  (d1:∀e∈a,e.length=loc.esz) (d2:∀e∈a,∀v∈e,v.one=V) {news:List Value} (d3:bb ρ a.flatten news) {B:Value} (Q:Src P loc.esz A B a.length news w)
  (y:os.length=n) (aB:∀e∈os,e.length=loc.esz) (aC:∀e∈os,∀v∈e,v.one=V) {olds:List Value} (aD:bb ρ os.flatten olds) (f:Addr) (c:Nat)
  (hold:(Builtin.firstCells loc.esz n (.slice (D f) n c)).run P w.drew= .ok olds.toArray w.drew) (E:(n+a.length)*C<=140737488355328/\n+a.length<=9223372036854775807)
  (N:ρ l=D loc) (ah:0<c->f=⟨loc.block,loc.off+i*loc.esz,Y⟩/\loc.off+(i+c)*loc.esz<=loc.size) {T:Nat} {S:List (List aa)} (ap:∀o,ot=D o->i=0) (g:H.get l=D (b8 ot T S)) (au:du H l i n loc.esz=D os):
  ∃r p q,(Builtin.append_ #[t,A] ty #[.slice (D f) n c,B]).run P w= .ok r p/\a1 q (.ag H.next 0 (n+a.length) loc.esz Y) r/\Step ρ H w q ((H.set l .dead).push (b8 ot loc.esz (os++a))) p:=by
 obtain⟨aI,aq⟩:=zt g au;obtain⟨aA,an,⟨aj,arr,t0,aE,F,K,aK⟩,-⟩:=nE s g;obtain rfl:loc=aA:=Option.some.inj (N.symm.trans an);subst aj;obtain⟨am,rfl⟩:=aq
 ·have y:=y;by_cases x:n+a.length<=c
  ·obtain⟨rfl,ak⟩:=ah bj;have aL:=K.1;have al:=K.2 rfl;have ax:=JU (n:=n) s G g N am d1 d2 d3 (by
    refine Nat.le_trans (Nat.add_le_add_left (Nat.mul_le_mul_right _ ?_) _) ak;omega) ap
   have aJ:news.length=a.length*loc.esz:=by rw[<-d3.length,eO d1]
   have L:∀j,j<news.length->loc.off+i*loc.esz+n*loc.esz+j<arr.size:=by
    intro j m;have af:(i+c)*loc.esz=i*loc.esz+c*loc.esz:=Nat.add_mul _ _ _;have aF:n*loc.esz+a.length*loc.esz<=c*loc.esz:=by rw[<-Nat.add_mul];exact Nat.mul_le_mul_right _ x
    omega
   cases u:P.info? e with
   |none=>unfold bu at b;rw[u]at b;cases b
   |some R=>
    have h:R.size=loc.esz:=by unfold bu at b;rw[u]at b;simpa using b
    have O:=run_append_room_src (P:=P) w t A ty e R hu u loc.block (loc.off+i*loc.esz) n c B a.length news (by rw[h];exact Q) x
     (λj m=>by rw[h];simp[World.cell?,F,L j m])
     (λj m=>by
      rw[h];have:=al _ (L j m);simp only[World.frozen?,F];simpa using this)
    rw[h]at O;refine⟨_,_,_,O,?_,by rw[show loc.off+i*loc.esz+n*loc.esz=loc.off+(i+n)*loc.esz by rw[Nat.add_mul];omega];exact ax⟩;refine a1.ag (ρ:=ρ.b2 H.next _) H.next 0 (n+a.length) Y ⟨loc.block,loc.off+i*loc.esz,loc.esz,loc.size⟩ _ c (Env.ct _ _ _) x (λk d=>by cases d) (λ_=>⟨by simp,?_⟩)
    have af:(i+c)*loc.esz=i*loc.esz+c*loc.esz:=Nat.add_mul _ _ _;simp only[Nat.zero_add];omega
  ·
    obtain⟨r,p,q,W,ab,ad⟩:=sj s G (ot:=ot) av ty hu b ai ay az aw d1 d2 d3 Q aB aC aD (D f) n c y hold bj E.1 E.2;refine⟨r,p,q,W,ab,ad.dead (by simp) (λk=> ?_)⟩;have ao:=ae.dz g;by_cases d:k=H.next
    ·subst d;left;rw[ae.cJ];exact ae.cJ (H.set l .dead) _
    ·by_cases M:k=l
     ·subst M;right;rw[ae.cp (by simpa using d),ae.dn ao]
     ·left;rw[ae.cp (by simpa using d),ae.cx (Ne.symm M),ae.cp d]
def vK(z:Array Value):∀n,(Builtin.zeroCells z n).toList=(List.replicate n z.toList).flatten
 |0=>by simp[Builtin.zeroCells]
 |n+1=>by
  rw[List.replicate_succ,List.flatten_cons,<-vK z n];apply List.ext_getElem?;intro i;simp only[Builtin.zeroCells,Array.toList_map,Array.toList_range,List.getElem?_map];by_cases a:i<(n+1)*z.size
  ·have c:0<z.size:=by
    rcases Nat.eq_zero_or_pos z.size with h|h
    ·rw[h]at a;simp at a
    ·exact h
   rw[List.getElem?_range a];by_cases b:i<z.size
   ·rw[List.getElem?_append_left (by simpa using b)];simp[Nat.mod_eq_of_lt b,b]
   ·rw[List.getElem?_append_right (by simp;omega)];rw[Nat.succ_mul]at a;simp only[Array.length_toList,List.getElem?_map];rw[List.getElem?_range bj];simp only[Option.map_some];rw[show i%z.size=(i-z.size)%z.size from Nat.mod_eq_sub_mod bj]
  ·rw[List.getElem?_eq_none (by simp;omega)];rw[List.getElem?_append_right (by simp;rw[Nat.succ_mul]at a;omega)];rw[List.getElem?_eq_none]
   ·rfl
   ·rw[Nat.succ_mul]at a;simp;omega
def J9(t a ty e:TypeId)(i:TypeInfo)(z:Value)(k:P.underlying t=D (.slice e))(j:P.info? e=D i)(m:i.zero=D z)(l:P.underlying a=D (.int .i64))(n:Nat)(u:0<n)(v:0<i.size)
  (r:n*i.bytes<=140737488355328) (q:n<=1125899906842624) (s:Builtin.nextslicecap n 0*i.bytes<=281474976710656):
  (Builtin.append_ #[t,a] ty #[.slice Y 0 0,.int .i64 n]).run P w=
   .ok (.slice (D ⟨w.heap.size,0,Y⟩) n (grownCap w n 0 e)) (w.drew.alloc (.cells (Builtin.zeroCells z.cells n++Builtin.zeroCells z.cells (grownCap w n 0 e-n)) e)):=by
 have hw:IntKind.i64.wrap (n:Int)=n:=IntWalk.i64_in n ⟨bj,bj⟩;have b:¬((n:Int)<0):=bj;have c:¬((n:Int)*(i.bytes:Int)>281474976710656):=by
  have:((n*i.bytes:Nat):Int)<=140737488355328:=bj;rw[Int.natCast_mul]at this;omega
 have o:¬(n<=0):=bj;have d:¬(9223372036854775807<(n:Int)):=bj;have f:¬(281474976710656<Builtin.nextslicecap n 0*i.bytes):=bj;have g:¬(n*i.size=0):=by
  intro h;rcases Nat.mul_eq_zero.1 h with h|h<;>omega
 have p:¬(n=0\/i.size=0):=bj;simp[Builtin.append_,run_underlying k,run_underlying l,sizeOf,typeInfo,zeroValue,j,m,b,c,d,f,hw,asInt,asIntOf,Question.forced,newRow,grownCap,Builtin.firstCells];rw[if_neg bj,if_neg g]
def yW{ρ:Env}{cs:List aa}{xs:List Value}(h:bb ρ cs xs):∀n,bb ρ (List.replicate n cs).flatten (List.replicate n xs).flatten
 |0=> .nil
 |n+1=>by rw[List.replicate_succ,List.replicate_succ,List.flatten_cons,List.flatten_cons];exact h.append (yW h n)
def zH(F:Rel ρ H w){t j e:TypeId}{s x a:aa}{u A:Value}{H':ae}(ty:TypeId)(hu:P.underlying t=D (.slice e))(ad:P.underlying j=D (.int .i64))(h:rP P H e s x=D (a,H'))(L:H.next<H'.next->ρ H.next=Y)(W:a1 ρ s u)(ab:a1 ρ x A):
  ∃r y B,(Builtin.append_ #[t,j] ty #[u,A]).run P w= .ok r y/\a1 B a r/\Step ρ H w B H' y:=by
 unfold rP at h;split at h
 ·rename_i n;cases W;cases ab;split at h
  ·rename_i esz aj z f d g;split at h
   ·rename_i G;obtain⟨Q,q,S,R,l,E⟩:=G;simp only[aV,bE]at h;obtain⟨rfl,rfl⟩:=h;have K:=L (by simp);unfold cy at g;unfold bu at f;unfold ff at d;simp only[bZ]at g;obtain⟨i,m,c,ah,ai⟩:=g;rw[m]at f d;simp only[Option.map_some,aV]at f d;subst f;subst d;have p:=(nH ai ρ).cells;have af:c.cells.size=i.size:=by have:=p.length;rw[q]at this;simpa using this.symm
    have M:=growslice_fits (need:=n) (old:=0) (bytes:=i.bytes) bj l;have T:=J9 (P:=P) (w:=w) t j ty e i c hu m ah ad n Q S l E (by simpa using M);have b:=hU (w:=w.drew) F.drew K (ot:=none) (esz:=i.size) (els:=List.replicate n z.cells) (λe he=>by rw[List.eq_of_mem_replicate he];exact q) (λe he v o=>by rw[List.eq_of_mem_replicate he]at o;exact List.all_eq_true.1 R v o)
     (xs:=(Builtin.zeroCells c.cells n).toList) (tail:=(Builtin.zeroCells c.cells (grownCap w n 0 e-n)).toList) (by rw[vK];exact yW p n) e (λ_ h=>by cases h)
    have C:((Builtin.zeroCells c.cells n).toList++(Builtin.zeroCells c.cells (grownCap w n 0 e-n)).toList).toArray=Builtin.zeroCells c.cells n++Builtin.zeroCells c.cells (grownCap w n 0 e-n):=by
     apply Array.ext';simp
    rw[C]at b;refine⟨_,_,_,T,?_,⟨b.le,b.next,b.cD,b.rel,b.os,b.tape,b.output,b.size,b.frame,b.own,b.ro⟩⟩;have N:n<=grownCap w n 0 e:=grownCap_ge w n 0 e;refine a1.ag (ρ:=ρ.b2 H.next _) H.next 0 n Y _ _ (grownCap w n 0 e) (Env.ct _ _ _) N (λk O=>by cases O) (λ_=>⟨by show(⟨w.heap.size,0,Y⟩:Addr)=⟨w.heap.size,0+0*i.size,Y⟩;simp,?_⟩)
    simp only[Nat.zero_add,Array.length_toList,size_zeroCells,af];rw[<-Nat.add_mul];exact Nat.mul_le_mul_right _ bj
   ·cases h
  ·cases h
 ·cases h
def zg(d:Rel ρ H w){ts:List TypeId}{s x a:aa}{am y:Value}{H':ae}(ty:TypeId)(h:bJ P H ts s x=D (a,H'))(p:H.next<H'.next->ρ H.next=Y)(E:a1 ρ s am)(al:a1 ρ x y):
  ∃r an ao,(Builtin.append_ ts.toArray ty #[am,y]).run P w= .ok r an/\a1 ao a r/\Step ρ H w ao H' an:=by
 unfold bJ at h;split at h
 ·rename_i t af;split at h
  ·rename_i e hu;split at h
   ·rename_i au;exact zH d ty hu (Eb au) h p E al
   split at h
   ·rename_i esz aB z m A F;split at h
    ·rename_i K ax;obtain⟨d1,d2,news,d3,v⟩:=zQ (P:=P) d ax al;split at h
     ·rename_i az;obtain⟨G,C⟩:=az;have aj:K.length=0->Src P esz af y 0 [] w:=λb=>by
       have:K=[]:=List.eq_nil_of_length_eq_zero b;subst this;have:news=[]:=by cases d3;rfl
       subst this;simpa using v
      split at h
      ·cases E;split at h
       ·rename_i b;simp only[aV,bE]at h;obtain⟨rfl,rfl⟩:=h;exact⟨_,_,_,yy w t af ty e hu m Y 0 0 (bM _) y (aj b),.ar,Step.refl d⟩
       ·rename_i b;split at h
        ·rename_i g;simp only[aV,bE]at h;obtain⟨rfl,rfl⟩:=h;have N:=p (by simp);have:=sj d N (zS (x:=x)) ty hu m A F G C d1 d2 d3 v (os:=[]) (by simp) (by simp) (olds:=[]) (by simpa using bb.nil) Y 0 0 rfl
          (run_firstCells_none w.drew esz 0 0 0) bj (by simpa using g.1) (by simpa using g.2)
         simpa using this
        ·cases h
      ·rename_i l i n aC cap;split at h
       ·rename_i he;split at h
        ·rename_i b;simp only[aV,bE]at h;obtain⟨rfl,rfl⟩:=h;cases E with|ag _ _ _ _ loc f c q Q L o=>
         exact⟨_,_,_,yy w t af ty e hu m (D f) n c Q y (aj b),.ag l i n cap loc f c q Q L o,Step.refl d⟩
        ·rename_i b;split at h
         ·rename_i g;split at h
          ·rename_i os R;cases E with|ag _ _ _ _ loc f c q Q L o=>
           subst he;obtain⟨S,T,W,olds,ab,ad,aA,aD⟩:=rJ d R q;have hold:(Builtin.firstCells loc.esz n (.slice (D f) n c)).run P w.drew= .ok olds.toArray w.drew:=by
            refine run_firstCells_some w.drew loc.esz n f n c olds ad (λj u ai=> ?_);have aw:0<c:=by
             rcases Nat.eq_zero_or_pos c with b|b
             ·have ay:n=0:=bj;rw[ay]at ad;have:olds=[]:=List.eq_nil_of_length_eq_zero (by simpa using ad);subst this;simp at ai
             ·exact b
            obtain⟨rfl,_⟩:=o aw;rw[ei];exact aA j u ai
           split at h
           ·rename_i B;simp only[aV,bE]at h;obtain⟨rfl,rfl⟩:=h;have N:=p (by simp);have av:c<n+K.length:=by
             cases M:cap with
             |none=>rw[M]at B;simp at B
             |some k=>rw[M]at B;simp at B;have:=L k M;omega
            exact sj d N (ot:=none) (λ_ h=>by cases h) ty hu m A F G C d1 d2 d3 v T W ab (D f) n c S hold av g.1 g.2
           ·split at h
            ·rename_i ah;split at h
             ·rename_i ap aq O;simp only[aV,bE]at h;obtain⟨rfl,rfl⟩:=h;exact wP d (p (by simp)) (ot:=none) (λ_ h=>by cases h) ty hu ah b m A F G C d1 d2 d3 v S T W ab f c hold g q o (λ_ h=>by cases h) O R
             ·rename_i t0 ap aq O;split at h
              ·rename_i ak;simp only[aV,bE]at h;obtain⟨rfl,rfl⟩:=h;exact wP d (p (by simp)) (ot:=some t0) (λ_ h=>by rw[<-Option.some.inj h];exact ak.1) ty hu ah b m A F G C d1 d2 d3 v S T W ab f c hold g q o (λ_ _=>ak.2) O R
              ·cases h
             ·cases h
            ·cases h
          ·cases h
         ·cases h
       ·cases h
      ·cases h
     ·cases h
    ·cases h
   ·cases h
  ·cases h
 ·cases h
end
section
variable {P:Program}{ρ:Env}{H:ae}{w:World}
def rL(P:Program)(H:ae)(t:TypeId)(x:aa):Option aa:=
 match P.underlying t,x with
 |some .string,.str s=>D (.int .i64 s.length)
 |some (.slice _),.ag _ _ n _ _=>D (.int .i64 n)
 |some (.slice _),.ar=>D (.int .i64 0)
 |some (.array n _),_=>D (.int .i64 n)
 |some (.map _ _),.cU=>D (.int .i64 0)
 |some (.map _ _),.map l=>(match H.get l with|some (.map es)=>D (.int .i64 es.length)|_=>Y)
 |_,_=>Y
def hH{l:Nat}{es:List (aa×aa)}(d:Rel ρ H w)(e:H.get l=D (.map es)){loc:Loc}(f:ρ l=D loc):
  ∃ents clock,w.heap[loc.block]? =D (.map ents clock)/\(getObj loc.block).run P w= .ok (.map ents clock) w/\bb ρ (es.map (·.1)) (ents.toList.map (·.key))/\bb ρ (es.map (·.2)) (ents.toList.map (·.val)):=by
 obtain⟨h,g,ents,clock,a,b,c⟩:=d.map _ _ e;obtain rfl:loc=h:=Option.some.inj (f.symm.trans g);exact⟨ents,clock,a,by simp[getObj,Sem.run,a],b,c⟩
def zE(d:Rel ρ H w){t:TypeId}{x v:aa}{b:Value}(ty:TypeId)(h:rL P H t x=D v)(a:a1 ρ x b):∃r,(Builtin.len_ #[t] ty #[b]).run P w= .ok r w/\a1 ρ v r:=by
 unfold rL at h;split at h
 ·rename_i s hu;cases a;simp only[aV]at h;subst h;have j:(⟨s.toArray⟩:ByteArray).size=s.length:=by show s.toArray.size=_;simp
  exact⟨_,by simp[Builtin.len_,run_underlying hu,goInt,j],.int _ _⟩
 ·rename_i hu;cases a;simp only[aV]at h;subst h;exact⟨_,by simp[Builtin.len_,run_underlying hu,goInt],.int _ _⟩
 ·rename_i hu;cases a;simp only[aV]at h;subst h;exact⟨_,by simp[Builtin.len_,run_underlying hu,goInt],.int _ _⟩
 ·rename_i n e hu;simp only[aV]at h;subst h;exact⟨_,by simp[Builtin.len_,run_underlying hu,goInt],.int _ _⟩
 ·rename_i hu;cases a;simp only[aV]at h;subst h;exact⟨_,by simp[Builtin.len_,run_underlying hu,goInt],.int _ _⟩
 ·rename_i hu;cases a with|map _ loc i=>
  split at h
  ·rename_i es f;simp only[aV]at h;subst h;obtain⟨ents,clock,l,g,c,k⟩:=hH (P:=P) d f i;have hlen:=c.length;simp only[List.length_map,Array.length_toList]at hlen;exact⟨_,by simp[Builtin.len_,run_underlying hu,goInt,g,<-hlen],.int _ _⟩
  ·cases h
 ·cases h
def rQ(x y:aa):Option aa:=
 match x,y with
 | .int k a,.int _ b=>D (.int k (if a<b then b else a))
 |_,_=>Y
def rR(x y:aa):Option aa:=
 match x,y with
 | .int k a,.int _ b=>D (.int k (if b<a then b else a))
 |_,_=>Y
def zJ{x y v:aa}{a b:Value}(ts:Array TypeId)(ty:TypeId)(h:rQ x y=D v)(c:a1 ρ x a)(d:a1 ρ y b)(w:World):∃r,(Builtin.max_ ts ty #[a,b]).run P w= .ok r w/\a1 ρ v r:=by
 unfold rQ at h;split at h
 ·cases c;cases d;simp only[aV]at h;subst h;exact⟨_,by simp[Builtin.max_,Builtin.max2],.int _ _⟩
 ·cases h
def zL{x y v:aa}{a b:Value}(ts:Array TypeId)(ty:TypeId)(h:rR x y=D v)(c:a1 ρ x a)(d:a1 ρ y b)(w:World):∃r,(Builtin.min_ ts ty #[a,b]).run P w= .ok r w/\a1 ρ v r:=by
 unfold rR at h;split at h
 ·cases c;cases d;simp only[aV]at h;subst h;exact⟨_,by simp[Builtin.min_,Builtin.min2],.int _ _⟩
 ·cases h
def bG(x:aa)(i:Nat):Option aa:=
 match x with
 | .tuple a=>a[i]?
 |_=>Y
def zv{x v:aa}{a:Value}{i:Nat}(h:bG x i=D v)(e:a1 ρ x a)(w:World):∃r,(Instr.extract a i).run P w= .ok r w/\a1 ρ v r:=by
 unfold bG at h;split at h
 ·cases e with|tuple _ xs c=>
  obtain⟨r,b,d⟩:=c.get _ _ h;exact⟨r,by simp[Instr.extract,b],d⟩
 ·cases h
def ht(P:Program)(src dst:TypeId)(x:aa):Option aa:=
 match P.underlying src,P.underlying dst,x with
 |some _,D (.int k),.int _ n=>D (.int k (k.wrap n))
 |some _,D .string,.str s=>D (.str s)
 |_,_,_=>Y
def zp{src dst:TypeId}{x v:aa}{d:Value}(h:ht P src dst x=D v)(c:a1 ρ x d)(w:World):∃r,(convert src dst d).run P w= .ok r w/\a1 ρ v r:=by
 unfold ht at h;split at h
 ·rename_i b a;cases c;simp only[aV]at h;subst h;exact⟨_,by simp[convert,run_underlying b,run_underlying a,Conv.intToInt],.int _ _⟩
 ·rename_i b a;cases c;simp only[aV]at h;subst h;exact⟨_,by simp[convert,run_underlying b,run_underlying a],.str _⟩
 ·cases h
def byteOf:List aa->Option UInt8
 |[.int .u8 n]=>D (UInt8.ofNat n.toNat)
 |_=>Y
def bytesOf:List (List aa)->Option (List UInt8)
 |[]=>D []
 |e::r=>match byteOf e,bytesOf r with
  |some b,D l=>D (b::l)
  |_,_=>Y
def hs(P:Program)(H:ae)(src dst:TypeId)(x:aa):Option aa:=
 match P.underlying src,P.underlying dst,x with
 |some (.slice e),D .string,.ag l i n esz _=>
  (match P.underlying e,du H l i n esz with
  |some (.int .u8),D a=>if esz=1 then(bytesOf a).map .str else Y
  |_,_=>Y)
 |some (.slice e),D .string,.ar=>(match P.underlying e with|some (.int .u8)=>D (.str [])|_=>Y)
 |_,_,_=>Y
def wi(f:Value->ByteArray->Sem (ForInStep ByteArray))(i:∀n s,f (.int .u8 n) s=pure (ForInStep.yield (s.push (UInt8.ofNat n.toNat)))):∀(e:List (List aa)) (c:List UInt8),bytesOf e=D c->∀(xs:List Value),bb ρ e.flatten xs->∀(acc:ByteArray),
  (forIn xs acc f).run P w= .ok (acc++⟨c.toArray⟩) w
 |[],c,h,xs,g,acc=>by
  simp[bytesOf]at h;subst h;cases g;have:acc++(⟨#[]⟩:ByteArray)=acc:=by apply ByteArray.ext;simp
  simp[Sem.run_pure,this]
 |d::e,c,h,xs,g,acc=>by
  unfold bytesOf at h;split at h
  ·rename_i b l a j;simp only[aV]at h;subst h;unfold byteOf at a;split at a
   ·rename_i n;simp only[aV]at a;subst a;cases g with|cons _ x _ p k m=>
    cases k;have o:=wi f i e l j p m (acc.push (UInt8.ofNat n.toNat));rw[List.forIn_cons];simp only[Sem.run_bind,i,Sem.run_pure,Result.andThen_ok];rw[o]
    congr 1
    apply ByteArray.ext;simp
   ·cases a
  ·cases h
def zl(t:Rel ρ H w){src dst:TypeId}{x v:aa}{p:Value}(h:hs P H src dst x=D v)(m:a1 ρ x p):∃r,(convert src dst p).run P w= .ok r w/\a1 ρ v r:=by
 unfold hs at h;split at h
 ·rename_i e l i n esz cap f d;split at h
  ·rename_i q he B;split at h
   ·rename_i s;simp only[Option.map_eq_some_iff]at h;obtain⟨b,z,rfl⟩:=h;cases m with|ag _ _ _ _ loc a c E M L y=>
    obtain⟨O,Q,R,xs,G,o,K,S⟩:=rJ t B E;refine⟨.string ⟨b.toArray⟩,?_,.str _⟩;have F:(loadCells a n).run P w= .ok xs.toArray w:=by
     rw[s,Nat.mul_one]at o;rw[<-o];refine run_loadCells_list w a xs (λj u k=> ?_);have A:0<c:=by
      rcases Nat.eq_zero_or_pos c with g|g
      ·have N:n=0:=bj;have:xs=[]:=List.eq_nil_of_length_eq_zero bj;subst this;simp at k
      ·exact g
     obtain⟨rfl,_⟩:=y A;rw[ei];exact K j u k
    have C:ByteArray.empty++(⟨b.toArray⟩:ByteArray)=⟨b.toArray⟩:=by apply ByteArray.ext;simp
    simp only[convert,Sem.run_bind,run_underlying f,run_underlying d,run_underlying he,Result.andThen_ok,Conv.bytesToString,F];rw[<-Array.forIn_toList];show((Sem.run P (forIn xs ByteArray.empty _) w).andThen _)=_;rw[wi (P:=P) (w:=w) _ (λ_ _=>rfl) q b z xs G ByteArray.empty,C];rfl
   ·cases h
  ·cases h
 ·rename_i e f d;cases m;split at h
  ·rename_i he;simp only[aV]at h;subst h;exact⟨.string ⟨#[]⟩,by simp[convert,run_underlying f,run_underlying d,run_underlying he,Conv.bytesToString];rfl,.str []⟩
  ·cases h
 ·cases h
def cO(P:Program)(H:ae)(t:TypeId)(l c:aa):Option (aa×ae):=
 match P.underlying t,l,c with
 |some (.slice e),.int d n,.int f m=>
  (match bu P e,ff P e,cy P e with
  |some a,D b,D z=>
   if d= .i64/\f= .i64/\0<=n/\n<=m/\m<=9223372036854775807/\(b:Int)*m<=281474976710656/\z.cells.length=a/\0<a/\z.cells.all aa.one=V then
    D (.ag H.next 0 n.toNat a (D m.toNat),H.push (.row U a (List.replicate m.toNat z.cells)))
   else Y
  |_,_,_=>Y)
 |_,_,_=>Y
def wrap_i64{n:Int}(a:0<=n)(b:n<=9223372036854775807):IntKind.i64.wrap n=n:=IntWalk.i64_in n ⟨bj,bj⟩
def zI(G:Rel ρ H w)(M:ρ H.next=Y){t:TypeId}{l c a:aa}{B p:Value}{H':ae}(h:cO P H t l c=D (a,H'))(O:a1 ρ l B)(K:a1 ρ c p):
  ∃r C E,(Instr.makeSlice t B p).run P w= .ok r C/\a1 E a r/\Step ρ H w E H' C:=by
 unfold cO at h;split at h
 ·rename_i e an n ao m hu;cases O;cases K;split at h
  ·rename_i d o z b g af;split at h
   ·rename_i L;obtain⟨rfl,rfl,q,s,v,aj,y,am,R⟩:=L;simp only[aV,bE]at h;obtain⟨rfl,rfl⟩:=h;obtain⟨k,ai,ah⟩:=eK af w;have S:∀u∈z.cells,u.one=true:=by simpa using R
    have x:=(ah ρ).cells;have j:k.cells.size=d:=by have:=x.length;rw[<-y,this];simp
    have T:=bb.sd x m.toNat;have W:=hU G M (ot:=none) (esz:=d) (els:=List.replicate m.toNat z.cells) (λe he=>by rw[List.eq_of_mem_replicate he];exact y)
     (λe he=>by rw[List.eq_of_mem_replicate he];exact S) T (tail:=[]) e (λ_ h=>by cases h)
    cases f:P.info? e with
    |none=>unfold bu at b;rw[f]at b;cases b
    |some A=>
     have ak:A.size=d:=by unfold bu at b;rw[f]at b;simpa using b
     have N:A.bytes=o:=by unfold ff at g;rw[f]at g;simpa using g
     have hlen:(List.replicate m.toNat k.cells.toList).flatten.length=m.toNat*d:=by simp[j]
     refine⟨.slice (D ⟨w.heap.size,0,Y⟩) n.toNat m.toNat,_,_,?_,?_,W⟩
     ·have ab:=wrap_i64 q (Int.le_trans s v);have ad:=wrap_i64 (Int.le_trans q s) v;have al:¬(m<0\/281474976710656<(o:Int)*m):=bj;have hzero:=y3 k.cells m.toNat bj;rw[j]at hzero;simp only[Instr.makeSlice,Sem.run_bind,run_underlying hu,Result.andThen_ok,asInt,asIntOf,Sem.run_pure,typeInfo,f,N,ab,ad,run_program];rw[if_neg (by simp;omega)];simp only[Sem.run_bind,run_askRoom,Result.andThen_ok,run_sizeOf b];by_cases i:m.toNat*d=0
      ·simp only[i,if_true];have Q:m.toNat=0:=by rcases Nat.mul_eq_zero.1 i with h|h<;>omega
       have F:Array.range 0= #[]:=rfl;simp[newRow,F,Q]
      ·simp only[i,if_false,Sem.run_bind,ai,Result.andThen_ok,Sem.run_pure,j,hzero];simp[newRow]
     ·refine a1.ag (ρ:=ρ.b2 H.next _) H.next 0 n.toNat (D m.toNat) ⟨w.heap.size,0,d,_⟩ _ m.toNat (Env.ct _ _ _) bj (by simp) (λ_=>⟨by simp,?_⟩)
      simp only[Nat.zero_add,hlen];simp
   ·cases h
  ·cases h
 ·cases h
def rI(P:Program)(t:TypeId)(x:aa):Option aa:=
 match P.underlying t,x with
 |some (.slice _),.ag _ _ _ _ (D k)=>D (.int .i64 k)
 |some (.slice _),.ar=>D (.int .i64 0)
 |_,_=>Y
def zn{t:TypeId}{x v:aa}{d:Value}(ty:TypeId)(h:rI P t x=D v)(b:a1 ρ x d)(w:World):∃r,(Builtin.cap_ #[t] ty #[d]).run P w= .ok r w/\a1 ρ v r:=by
 unfold rI at h;split at h
 ·rename_i e l i n esz k hu;cases b with|ag _ _ _ _ loc a c j m f g=>
  obtain rfl:=f k rfl;simp only[aV]at h;subst h;exact⟨_,by simp[Builtin.cap_,run_underlying hu,goInt],.int _ _⟩
 ·rename_i e hu;cases b;simp only[aV]at h;subst h;exact⟨_,by simp[Builtin.cap_,run_underlying hu,goInt],.int _ _⟩
 ·cases h
def yE(b:Nat):∀(xs a:List Value) (aw:Nat) (w:World),w.setCells b aw (xs++a)=(w.setCells b aw xs).setCells b (aw+xs.length) a
 |[],a,aw,w=>by simp[World.setCells]
 |x::xs,a,aw,w=>by
  simp only[List.cons_append,World.setCells];rw[yE b xs a,List.length_cons,show aw+1+xs.length=aw+(xs.length+1) by omega]
def fp(H:ae)(l:Nat)(cs:List aa):Nat->Nat->Option ae
 |_,0=>D H
 |i,k+1=>match H.get l with
  |some (.row U esz els)=>(match els[i]? with
   |some e=>if cs.length=esz then(fp (H.set l (.row U esz (els.set i (ck e 0 cs)))) l cs (i+1) k)else Y
   |none=>Y)
  |_=>Y
def wq{l:Nat}{loc:Loc}{cs:List aa}{xs:List Value}(b:bb ρ cs xs)(d:∀v∈cs,v.one=V)(f:ρ l=D loc)(hlen:cs.length=loc.esz):
  ∀(k i:Nat) (H H':ae) (w:World),Rel ρ H w->fp H l cs i k=D H'->Step ρ H w ρ H' (w.setCells loc.block (loc.off+i*loc.esz) (List.replicate k xs).flatten)
 |0,i,H,H',w,a,h=>by
  simp only[fp,aV]at h;subst h;simpa [World.setCells]using Step.refl a
 |k+1,i,H,H',w,a,h=>by
  unfold fp at h;split at h
  ·rename_i esz els g;split at h
   ·rename_i e he;split at h
    ·rename_i j;have s1:=y2 a (ot:=none) g f he (c:=0) (cs:=cs) bj d b;have s2:=wq b d f hlen k (i+1) _ H' _ s1.rel h;have g5:=s1.trans s2;rw[List.replicate_succ,List.flatten_cons,yE,<-b.length,hlen,show loc.off+i*loc.esz+loc.esz=loc.off+(i+1)*loc.esz by rw[Nat.succ_mul];omega];exact g5
    ·cases h
   ·cases h
  ·cases h
def AE{l:Nat}{cs:List aa}:∀{k i:Nat} {H H':ae},0<k->fp H l cs i k=D H'->∃esz els,H.get l=D (.row U esz els)/\cs.length=esz
 |0,_,_,_,h,_=>bj
 |k+1,i,H,H',_,h=>by
  unfold fp at h;split at h
  ·rename_i esz els b;split at h
   ·split at h
    ·rename_i a;exact⟨esz,els,b,a⟩
    ·cases h
   ·cases h
  ·cases h
def m9(P:Program)(H:ae)(ts:List TypeId)(x:aa):Option ae:=
 match ts with
 |[t]=>(match P.underlying t with
  |some (.slice e)=>(match x with
   | .ar=>D H
   | .ag l i n _ _=>if n=0 then D H else(match cy P e with
    |some z=>if z.cells.all aa.one=V then fp H l z.cells i n else Y
    |none=>Y)
   |_=>Y)
  |_=>Y)
 |_=>Y
def zo(d:Rel ρ H w){ts:List TypeId}{x:aa}{G:Value}{H':ae}(ty:TypeId)(h:m9 P H ts x=D H')(E:a1 ρ x G):
  ∃F,(Builtin.clear_ ts.toArray ty #[G]).run P w= .ok (.tuple #[]) F/\Step ρ H w ρ H' F:=by
 unfold m9 at h;split at h
 ·rename_i t;split at h
  ·rename_i e hu;split at h
   ·cases E;simp only[aV]at h;subst h;exact⟨w,by simp[Builtin.clear_,run_underlying hu],Step.refl d⟩
   ·rename_i l i n esz cap;cases E with|ag _ _ _ _ loc a c s T au K=>
    split at h
    ·rename_i g;subst g;simp only[aV]at h;subst h;exact⟨w,by simp[Builtin.clear_,run_underlying hu],Step.refl d⟩
    ·rename_i g;split at h
     ·rename_i z ak;split at h
      ·rename_i W;have A:∀v∈z.cells,v.one=true:=List.all_eq_true.1 W;obtain⟨y,ah,aj⟩:=eK ak w;have f:=(aj ρ).cells;obtain⟨an,els,Q,L⟩:=AE bj h;obtain⟨al,R,N,arr,t0,ao,o,p,aw⟩:=d.row _ _ _ _ Q;obtain rfl:loc=al:=Option.some.inj (s.symm.trans R);have ax:=p.1;have O:=p.2 rfl;have hlen:z.cells.length=loc.esz:=by rw[L,N]
       have M:0<c:=bj;obtain⟨rfl,av⟩:=K M;have C:=wq f A s hlen n i H H' w d h;have ai:y.cells.toList.length=loc.esz:=by rw[<-f.length];exact hlen
       have k:((List.replicate n y.cells.toList).flatten).length=n*loc.esz:=by simp[ai]<;>rfl
       have q:∀j,j<n*loc.esz->loc.off+i*loc.esz+j<arr.size:=by
        intro j b;have ap:(i+c)*loc.esz=i*loc.esz+c*loc.esz:=Nat.add_mul _ _ _;have aq:n*loc.esz<=c*loc.esz:=Nat.mul_le_mul_right _ T;omega
       have B:=run_storeCells_cells (P:=P) loc.block (loc.off+i*loc.esz) (List.replicate n y.cells.toList).flatten 0 w
        (λj b=>by rw[k]at b;simp[World.cell?,o,q j b])
        (λj b=>by
         rw[k]at b;have:=O _ (q j b);simp only[World.frozen?,o,Nat.add_zero];simpa using this)
        (λu hu=>by
         obtain⟨ay,S,ad⟩:=List.mem_flatten.1 hu;obtain rfl:=List.eq_of_mem_replicate S;obtain⟨j,b⟩:=List.getElem?_of_mem ad;have r:j<z.cells.length:=by
          rcases Nat.lt_or_ge j y.cells.toList.length with h|h
          ·omega
          ·rw[List.getElem?_eq_none h]at b;cases b
         obtain⟨am,ab,af⟩:=f.get j _ (List.getElem?_eq_getElem r);obtain rfl:u=am:=Option.some.inj (b.symm.trans ab);exact af.sE (A _ (List.getElem_mem r)))
       rw[<-vK]at B C;refine⟨_,?_,C⟩;cases n with
       |zero=>omega
       |succ m=>
        simp only[Builtin.clear_];simp[run_underlying hu,ah];rw[B];simp
      ·cases h
     ·cases h
   ·cases h
  ·cases h
 ·cases h
end
section
variable {P:Program}{ρ:Env}{H:ae}{w:World}
def gF(d:TypeDesc)(a b:aa):Option Bool:=
 match d,a,b with
 | .int _,.int k x,.int c y=>if k=c then D (x==y)else Y
 | .string,.str x,.str y=>D (x==y)
 | .bool,.bool x,.bool y=>D (x==y)
 |_,_,_=>Y
def gk(d:TypeDesc)(k:aa):List (aa×aa)->Nat->Option (Option (Nat×aa))
 |[],_=>D Y
 |e::es,i=>match gF d k e.1 with
  |some V=>D (D (i,e.2))
  |some U=>gk d k es (i+1)
  |none=>Y
def xP{d:TypeDesc}{a b:aa}{bX b5:Value}{r:Bool}(h:gF d a b=D r)(c:a1 ρ a bX)(e:a1 ρ b b5):Instr.sameNow d bX b5=D r:=by
 unfold gF at h;split at h
 ·cases c;cases e;split at h
  ·rename_i f;subst f;simpa [Instr.sameNow]using h
  ·cases h
 ·cases c;cases e;simp only[aV]at h;subst h;simp[Instr.sameNow,vC]
 ·cases c;cases e;simpa [Instr.sameNow]using h
 ·cases h
inductive hn(ρ:Env):Option (Nat×aa)->Option (Nat×Value)->Prop where
 |none:hn ρ none none
 |some (i:Nat) (v:aa) (x:Value) (h:a1 ρ v x):hn ρ (some (i,v)) (some (i,x))
def hy{d:TypeDesc}{k:aa}{n:Value}(g:a1 ρ k n):∀(es:List (aa×aa)) (ents:List MapEntry) (i:Nat) (r:Option (Nat×aa)),gk d k es i=D r->
  bb ρ (es.map (·.1)) (ents.map (·.key))->bb ρ (es.map (·.2)) (ents.map (·.val))->∃bL,Instr.findNow d n ents i=D bL/\hn ρ r bL/\∀j v,r=D (j,v)->i<=j/\j<i+es.length/\∃e,es[j-i]? =D e/\gF d k e.1=D V
 |[],ents,i,r,h,a,b=>by
  simp[gk]at h;subst h;have:ents=[]:=by
   have:=a.length;simp at this;exact List.eq_nil_of_length_eq_zero this.symm
  subst this;exact⟨Y,rfl,.none,λj v h=>by cases h⟩
 |e::es,[],i,r,h,a,b=>by have:=a.length;simp at this
 |e::es,m::ents,i,r,h,a,b=>by
  simp only[List.map_cons]at a b;cases a with|cons _ _ _ _ l p=>
  cases b with|cons _ _ _ _ o q=>
  unfold gk at h;unfold Instr.findNow;split at h
  ·rename_i f;simp only[aV]at h;subst h;rw[xP f g l];exact⟨_,rfl,.some i _ _ o,λj v c=>by
    simp only[aV,bE]at c;obtain⟨rfl,_⟩:=c;exact⟨bM _,by simp,e,by simp,f⟩⟩
  ·rename_i f;rw[xP f g l];obtain⟨bL,t,u,w⟩:=hy g es ents (i+1) r h p q;refine⟨bL,t,u,λj v c=> ?_⟩;obtain⟨z,A,s,x,y⟩:=w j v c;refine⟨bj,by simp;omega,s,?_,y⟩;rw[show j-i=(j-(i+1))+1 by omega];simpa using x
  ·cases h
def plainKey(d:TypeDesc):Bool:=
 match d with
 | .int _| .string| .bool=>V
 |_=>U
def nf{t:TypeId}{d:TypeDesc}(hu:P.underlying t=D d)(a:plainKey d=V)(empty:Bool)(v:Value)(n:Nat)(w:World):(Instr.checkKey empty (n+1) t v).run P w= .ok () w:=by
 unfold Instr.checkKey;simp only[Sem.run_bind,run_underlying hu,Result.andThen_ok];cases d<;>simp[plainKey]at a<;>rfl
def gK(P:Program)(d:TypeDesc)(k:aa):Bool:=
 match d,k with
 | .array 2 e,.agg cs=>(match P.underlying e with|some (.int _)=>V|_=>U)&&(match bu P e with|some n=>(apart P e cs (0*n)).isSome&&(apart P e cs (1*n)).isSome|none=>U)
 |_,_=>U
def r5{t:TypeId}{d:TypeDesc}{k:aa}{g:Value}(hu:P.underlying t=D d)(b:gK P d k=V)(p:a1 ρ k g)(empty:Bool)(n:Nat)(w:World):(Instr.checkKey empty (n+2) t g).run P w= .ok () w:=by
 unfold gK at b;split at b
 ·rename_i e cs;simp only[Bool.and_eq_true]at b;obtain⟨c,a⟩:=b;split at c
  ·rename_i r he;split at a
   ·rename_i m hm;simp only[Bool.and_eq_true]at a;obtain⟨a0,j⟩:=Option.isSome_iff_exists.1 a.1;obtain⟨q,l⟩:=Option.isSome_iff_exists.1 a.2;cases p with|agg _ xs f=>
    obtain⟨s,h,_⟩:=eI j f w;obtain⟨u,i,_⟩:=eI l f w;have o:∀v:Value,(Instr.checkKey empty (n+1) e v).run P w= .ok () w:=λv=>nf he rfl empty v n w
    unfold Instr.checkKey;simp only[Sem.run_bind,run_underlying hu,Result.andThen_ok];rw[Std.Legacy.Range.forIn_eq_forIn_range'];simp only[Nat.zero_mul,Nat.one_mul]at h i;simp[List.range',run_sizeOf hm,h,i,o]
   ·cases a
  ·cases c
 ·cases b
def fj(P:Program)(a:TypeId)(k:aa):List (aa×aa)->Nat->Option (Option (Nat×aa))
 |[],_=>D Y
 |e::es,i=>match dI P 10000 a k e.1 with
  |some V=>D (D (i,e.2))
  |some U=>fj P a k es (i+1)
  |none=>Y
def vT{d:TypeId}{k:aa}{c:Value}(f:a1 ρ k c)(w:World):∀(es:List (aa×aa)) (ents:List MapEntry) (i:Nat) (r:Option (Nat×aa)),fj P d k es i=D r->
  bb ρ (es.map (·.1)) (ents.map (·.key))->bb ρ (es.map (·.2)) (ents.map (·.val))->∃bL,(Instr.findAsking d c ents i).run P w= .ok bL w/\hn ρ r bL
 |[],ents,i,r,h,a,b=>by
  simp[fj]at h;subst h;have:ents=[]:=by
   have:=a.length;simp at this;exact List.eq_nil_of_length_eq_zero this.symm
  subst this;exact⟨Y,rfl,.none⟩
 |e::es,[],i,r,h,a,b=>by have:=a.length;simp at this
 |e::es,m::ents,i,r,h,a,b=>by
  simp only[List.map_cons]at a b;cases a with|cons _ _ _ _ j n=>
  cases b with|cons _ _ _ _ l o=>
  unfold fj at h;unfold Instr.findAsking;split at h
  ·rename_i g;simp only[aV]at h;subst h;have he:(Op.equal d c m.key).run P w= .ok V w:=hD (ρ:=ρ) w _ _ _ _ _ _ _ g f j;exact⟨_,by simp[he],.some i _ _ l⟩
  ·rename_i g;have he:(Op.equal d c m.key).run P w= .ok U w:=hD (ρ:=ρ) w _ _ _ _ _ _ _ g f j;obtain⟨bL,p,q⟩:=vT f w es ents (i+1) r h n o;exact⟨bL,by simp[he,p],q⟩
  ·cases h
def Cc{n:Nat}{e:TypeId}{a:Value}:∀(ents:List MapEntry) (i:Nat),Instr.findNow (.array n e) a ents i=match ents with|[]=>D Y|_=>Y
 |[],_=>rfl
 |m::_,i=>by cases a<;>rfl
def sb{b:TypeId}{d:TypeDesc}{k:aa}{f:Value}(hu:P.underlying b=D d)(a:gK P d k=V)(l:a1 ρ k f)(w:World){es:List (aa×aa)}{ents:List MapEntry}{r:Option (Nat×aa)}(h:fj P b k es 0=D r)
  (g:bb ρ (es.map (·.1)) (ents.map (·.key))) (i:bb ρ (es.map (·.2)) (ents.map (·.val))):∃bL,(Instr.findKey b f ents).run P w= .ok bL w/\hn ρ r bL:=by
 obtain⟨n,e,rfl⟩:∃n e,d= .array n e:=by
  unfold gK at a;split at a
  ·exact⟨_,_,rfl⟩
  ·cases a
 obtain⟨bL,c,j⟩:=vT (P:=P) l w es ents 0 r h g i;refine⟨bL,?_,j⟩;unfold Instr.findKey;simp only[Sem.run_bind,run_underlying hu,Result.andThen_ok,Cc];cases ents with
 |nil=>exact c
 |cons m ents=>exact c
def dv(P:Program)(H:ae)(t:TypeId)(x k:aa)(a:Bool):Option aa:=
 match P.underlying t with
 |some (.map b c)=>
  (match P.underlying b,cy P c with
  |some d,D z=>
   if plainKey d=V then
    (match(match x with| .cU=>D []| .map l=>(match H.get l with|some (.map es)=>D es|_=>Y)|_=>Y)with
    |some es=>
     (match gk d k es 0 with
     |some (D (_,v))=>D (if a then .tuple [v,.bool V]else v)
     |some Y=>D (if a then .tuple [z,.bool U]else z)
     |none=>Y)
    |none=>Y)
   else if gK P d k=V then
    (match(match x with| .cU=>D []| .map l=>(match H.get l with|some (.map es)=>D es|_=>Y)|_=>Y)with
    |some es=>
     (match fj P b k es 0 with
     |some (D (_,v))=>D (if a then .tuple [v,.bool V]else v)
     |some Y=>D (if a then .tuple [z,.bool U]else z)
     |none=>Y)
    |none=>Y)
   else Y
  |_,_=>Y)
 |_=>Y
def zF(N:Rel ρ H w){t:TypeId}{x k v:aa}{F s:Value}{ok:Bool}(h:dv P H t x k ok=D v)(E:a1 ρ x F)(q:a1 ρ k s):
  ∃r,(Instr.lookup t F s ok).run P w= .ok r w/\a1 ρ v r:=by
 unfold dv at h;split at h
 ·rename_i R T hu;split at h
  ·rename_i d z e O;split at h
   ·rename_i m;split at h
    ·rename_i es a;obtain⟨o,C,B⟩:=eK O w;have G:∃ents:Array MapEntry,bb ρ (es.map (·.1)) (ents.toList.map (·.key))/\bb ρ (es.map (·.2)) (ents.toList.map (·.val))/\
       ∀bL:Option (Nat×Value),Instr.findNow d s ents.toList 0=D bL->(Instr.lookup t F s ok).run P w=
       .ok (match bL with|some (_,v)=>(if ok then .tuple #[v,.bool V]else v)|none=>(if ok then .tuple #[o,.bool U]else o)) w:=by
      split at a
      ·cases E;simp only[aV]at a;subst a;refine⟨#[],by simpa using bb.nil,by simpa using bb.nil,λbL n=> ?_⟩;unfold Instr.lookup;simp only[Sem.run_bind,run_underlying hu,Result.andThen_ok,Sem.run_pure];rw[nf e m];simp only[Result.andThen_ok,Instr.findKey,Sem.run_bind,run_underlying e,n,Sem.run_pure];cases bL with
       |none=>simp[C]
       |some p=>obtain⟨i,v⟩:=p;simp
      ·cases E with|map l loc M=>
       split at a
       ·rename_i es' K;simp only[aV]at a;subst a;obtain⟨ents,clock,Q,L,b,c⟩:=hH (P:=P) N K M;refine⟨ents,b,c,λbL n=> ?_⟩;unfold Instr.lookup;simp only[Sem.run_bind,run_underlying hu,Result.andThen_ok,Sem.run_pure,L];rw[nf e m];simp only[Result.andThen_ok,Instr.findKey,Sem.run_bind,run_underlying e,n,Sem.run_pure];cases bL with
        |none=>simp[C]
        |some p=>obtain⟨i,v⟩:=p;simp
       ·cases a
      ·cases a
     obtain⟨ents,b,c,u⟩:=G;split at h
     ·rename_i i S j;simp only[aV]at h;subst h;obtain⟨bL,f,g,_⟩:=hy q es ents.toList 0 _ j b c;cases g with|some _ _ y A=>
      refine⟨_,u _ f,?_⟩;cases ok
      ·exact A
      ·exact .tuple _ [y,.bool V] (.cons _ _ _ _ A (.cons _ _ _ _ (.bool _) .nil))
     ·rename_i j;simp only[aV]at h;subst h;obtain⟨bL,f,g,_⟩:=hy q es ents.toList 0 _ j b c;cases g;refine⟨_,u _ f,?_⟩;cases ok
      ·exact B ρ
      ·exact .tuple _ [o,.bool U] (.cons _ _ _ _ (B ρ) (.cons _ _ _ _ (.bool _) .nil))
     ·cases h
    ·cases h
   ·split at h
    ·rename_i m;split at h
     ·rename_i es a;obtain⟨o,C,B⟩:=eK O w;have G:∃ents:Array MapEntry,bb ρ (es.map (·.1)) (ents.toList.map (·.key))/\bb ρ (es.map (·.2)) (ents.toList.map (·.val))/\
        ∀bL:Option (Nat×Value),(Instr.findKey R s ents.toList).run P w= .ok bL w->(Instr.lookup t F s ok).run P w=
        .ok (match bL with|some (_,v)=>(if ok then .tuple #[v,.bool V]else v)|none=>(if ok then .tuple #[o,.bool U]else o)) w:=by
       split at a
       ·cases E;simp only[aV]at a;subst a;refine⟨#[],by simpa using bb.nil,by simpa using bb.nil,λbL n=> ?_⟩;unfold Instr.lookup;simp only[Sem.run_bind,run_underlying hu,Result.andThen_ok,Sem.run_pure];rw[r5 e m q];simp only[Result.andThen_ok,n];cases bL with
        |none=>simp[C]
        |some p=>obtain⟨i,v⟩:=p;simp
       ·cases E with|map l loc M=>
        split at a
        ·rename_i es' K;simp only[aV]at a;subst a;obtain⟨ents,clock,Q,L,b,c⟩:=hH (P:=P) N K M;refine⟨ents,b,c,λbL n=> ?_⟩;unfold Instr.lookup;simp only[Sem.run_bind,run_underlying hu,Result.andThen_ok,Sem.run_pure,L];rw[r5 e m q];simp only[Result.andThen_ok,n];cases bL with
         |none=>simp[C]
         |some p=>obtain⟨i,v⟩:=p;simp
        ·cases a
       ·cases a
      obtain⟨ents,b,c,u⟩:=G;split at h
      ·rename_i i S j;simp only[aV]at h;subst h;obtain⟨bL,f,g⟩:=sb e m q w j b c;cases g with|some _ _ y A=>
       refine⟨_,u _ f,?_⟩;cases ok
       ·exact A
       ·exact .tuple _ [y,.bool V] (.cons _ _ _ _ A (.cons _ _ _ _ (.bool _) .nil))
      ·rename_i j;simp only[aV]at h;subst h;obtain⟨bL,f,g⟩:=sb e m q w j b c;cases g;refine⟨_,u _ f,?_⟩;cases ok
       ·exact B ρ
       ·exact .tuple _ [o,.bool U] (.cons _ _ _ _ (B ρ) (.cons _ _ _ _ (.bool _) .nil))
      ·cases h
     ·cases h
    ·cases h
  ·cases h
 ·cases h
def rO(H:ae):aa×ae:=(.map H.next,H.push (.map []))
def zG(c:Rel ρ H w)(d:ρ H.next=Y)(t:TypeId):∃r a b,(Instr.makeMap t Y).run P w= .ok r a/\a1 b (rO H).1 r/\Step ρ H w b (rO H).2 a:=by
 have e:=yk c d (.map []) rfl (.map #[] 0) ⟨w.heap.size,0,0,0⟩ rfl (λ_ _ _ h=>by cases h) (λes h=>by
  simp only[bk.map.injEq]at h;subst h;exact⟨#[],0,heap_alloc_new _ _,by simpa using bb.nil,by simpa using bb.nil⟩) (λ_ _ _ h=>by cases h)
 refine⟨.map (D w.heap.size),_,_,?_,.map H.next ⟨w.heap.size,0,0,0⟩ (Env.ct _ _ _),e⟩;simp[Instr.makeMap]
def vy(g:Rel ρ H w){l:Nat}{es es':List (aa×aa)}(i:H.get l=D (.map es)){loc:Loc}(o:ρ l=D loc){ents:Array MapEntry}{clock:Nat}
  (j:bb ρ (es'.map (·.1)) (ents.toList.map (·.key))) (m:bb ρ (es'.map (·.2)) (ents.toList.map (·.val))):
  Step ρ H w ρ (H.set l (.map es')) {w with heap:=w.heap.setIfInBounds loc.block (.map ents clock)}:=by
 have q:=ae.dz i;obtain⟨d,f,ad,ab,G,_,_⟩:=g.map _ _ i;obtain rfl:loc=d:=Option.some.inj (o.symm.trans f);have K:=dA G;have p:∀k,k≠loc.block->({w with heap:=w.heap.setIfInBounds loc.block (.map ents clock)}:World).heap[k]? =w.heap[k]? :=λk L=>by
  show(w.heap.setIfInBounds loc.block _)[k]? =_;rw[Array.getElem?_setIfInBounds,if_neg (Ne.symm L)]
 have n:∀a d,H.live a->a≠l->ρ a=D d->d.block≠loc.block:=λa d h bs e heq=>
  g.apart l a loc d (.inr (.inl ⟨_,i⟩)) h (Ne.symm bs) o e heq.symm
 have t:∀a,(H.set l (.map es')).rw a->H.rw a:=by
  intro a h;by_cases c:l=a
  ·subst c;exact .inr (.inl ⟨_,i⟩)
  ·simpa [ae.rw,ae.cx c]using h
 have M:∀a,(H.set l (.map es')).live a->H.live a:=by
  intro a h;by_cases c:l=a
  ·subst c;exact .inr (.inl ⟨_,i⟩)
  ·simpa [ae.live,ae.cx c]using h
 refine⟨ρ.le_refl,bM _,λ_ _=>rfl,⟨?_,?_,?_,?_⟩,rfl,rfl,rfl,by simp,?_,?_,ae.sR rfl⟩
 ·intro a ah C A h;by_cases c:l=a
  ·subst c;rw[ae.dn q]at h;cases h
  ·rw[ae.cx c]at h;obtain⟨d,f,T,v,u,E,r,s,W⟩:=g.row _ _ _ _ h;exact⟨d,f,T,v,u,E,by rw[p _ (n a d (.inl ⟨_,_,_,h⟩) (Ne.symm c) f)];exact r,s,W⟩
 ·intro a af h;by_cases c:l=a
  ·subst c;rw[ae.dn q]at h;simp only[aV,bk.map.injEq]at h;subst h;refine⟨loc,o,ents,clock,?_,j,m⟩;show(w.heap.setIfInBounds loc.block _)[loc.block]? =_;rw[Array.getElem?_setIfInBounds,if_pos rfl,if_pos K]
  ·rw[ae.cx c]at h;obtain⟨d,f,B,x,r,s⟩:=g.map _ _ h;exact⟨d,f,B,x,by rw[p _ (n a d (.inr (.inl ⟨_,h⟩)) (Ne.symm c) f)];exact r,s⟩
 ·intro a u C A h;by_cases c:l=a
  ·subst c;rw[ae.dn q]at h;cases h
  ·rw[ae.cx c]at h;obtain⟨d,f,O⟩:=g.bS _ _ _ _ h;exact⟨d,f,O.frame ρ.le_refl (p _ (n a d (.inr (.inr ⟨_,_,_,h⟩)) (Ne.symm c) f))⟩
 ·intro P Q R S j m n y z;exact g.apart P Q R S (t _ j) (M _ m) n y z
 ·intro b _ N;refine p b ?_;rintro rfl;exact N ⟨l,loc,.inr (.inl ⟨_,i⟩),o,rfl⟩
 ·rintro b ⟨a,d,j,m,F⟩;exact .inl ⟨a,d,t _ j,m,F⟩
def eH(P:Program)(H:ae)(t:TypeId)(m k v:aa):Option ae:=
 match P.underlying t,m with
 |some (.map a _),.map l=>
  (match P.underlying a,H.get l with
  |some d,D (.map es)=>
   if plainKey d=V then
    (match gk d k es 0 with
    |some (D (i,_))=>D (H.set l (.map (es.set i (k,v))))
    |some Y=>D (H.set l (.map (es++[(k,v)])))
    |none=>Y)
   else if gK P d k=V then
    (match fj P a k es 0 with
    |some Y=>D (H.set l (.map (es++[(k,v)])))
    |_=>Y)
   else Y
  |_,_=>Y)
 |_,_=>Y
def Tp{d:TypeDesc}{a b:aa}{bX b5:Value}(h:gF d a b=D V)(c:a1 ρ a bX)(e:a1 ρ b b5)(n:Nat):Instr.sameBits (n+1) b5 bX=true:=by
 unfold gF at h;split at h
 ·cases c;cases e;split at h
  ·rename_i f;subst f;simp at h;subst h;simp[Instr.sameBits]
  ·cases h
 ·cases c;cases e;simp at h;subst h;simp[Instr.sameBits,vC]
 ·cases c;cases e;simp at h;subst h;simp[Instr.sameBits]
 ·cases h
def Gg(es:List (aa×aa))(i:Nat)(k v:aa):(es.set i (k,v)).map (·.1)=(es.map (·.1)).set i k:=by simp[List.map_set]
def Gh(es:List (aa×aa))(i:Nat)(k v:aa):(es.set i (k,v)).map (·.2)=(es.map (·.2)).set i v:=by simp[List.map_set]
def vW(q:Rel ρ H w){t:TypeId}{m k v:aa}{cE a b:Value}{H':ae}(h:eH P H t m k v=D H')(hm:a1 ρ m cE)(f:a1 ρ k a)(G:a1 ρ v b):
  ∃N,(Instr.mapUpdate t cE a b).run P w= .ok () N/\Step ρ H w ρ H' N:=by
 unfold eH at h;split at h
 ·rename_i ah ad l hu;cases hm with|map _ loc x=>
  split at h
  ·rename_i d es z s;split at h
   ·rename_i B;obtain⟨ents,clock,E,F,c,g⟩:=hH (P:=P) q s x;have C:∀aw:Obj,(setObj loc.block aw).run P w= .ok () {w with heap:=w.heap.setIfInBounds loc.block aw}:=λaw=>by simp[setObj,Sem.run,E]
    have L:∀bL,Instr.findNow d a ents.toList 0=D bL->(Instr.mapUpdate t (.map (D loc.block)) a b).run P w=
      (match bL with
       |some (i,_)=>(do
        let key<-Instr.keyThatStays (((ents[i]?).map (·.key)).getD a) a
        setObj loc.block (.map (ents.modify i λe=>{e with key,val:=b}) clock):Sem Unit).run P w
       |none=>(setObj loc.block (.map (ents.push {key:=a,val:=b,born:=clock}) (clock+1))).run P w):=by
     intro bL T;unfold Instr.mapUpdate;simp only[Sem.run_bind,run_underlying hu,Result.andThen_ok,F];rw[nf z B];simp only[Result.andThen_ok,Instr.findKey,Sem.run_bind,run_underlying z,T,Sem.run_pure];cases bL with
     |none=>rfl
     |some p=>obtain⟨i,v⟩:=p;simp only[Sem.run_bind]
    split at h
    ·rename_i i v0 r;simp only[aV]at h;subst h;obtain⟨bL,n,o,K⟩:=hy f es ents.toList 0 _ r c g;cases o with|some _ _ y af=>
     obtain⟨_,O,e,he,W⟩:=K i v0 rfl;simp only[Nat.sub_zero,Nat.zero_add]at he O;have hlen:=c.length;simp only[List.length_map,Array.length_toList]at hlen;have A:i<ents.size:=bj;obtain⟨M,Q,S⟩:=c.get i e.1 (by simp[he]);have R:ents[i].key=M:=by simpa [A]using Q
     have ab:(Instr.keyThatStays (((ents[i]?).map (·.key)).getD a) a).run P w= .ok a w:=by
      unfold Instr.keyThatStays;have:((ents[i]?).map (·.key)).getD a=M:=by simp[A,R]
      rw[this,if_pos (Tp W f S 9999)];rfl
     refine⟨_,?_,vy q s x (es':=es.set i (k,v)) (ents:=ents.modify i λe=>{e with key:=a,val:=b}) (clock:=clock) ?_ ?_⟩
     ·rw[L _ n];simp only[Sem.run_bind,ab,Result.andThen_ok];exact C _
     ·rw[Gg];have:(ents.modify i λe=>{e with key:=a,val:=b}).toList.map (·.key)=(ents.toList.map (·.key)).set i a:=by
       apply List.ext_getElem?;intro j;by_cases u:i=j
       ·subst u;simp[A]
       ·simp[u]
      rw[this];exact c.set f i
     ·rw[Gh];have:(ents.modify i λe=>{e with key:=a,val:=b}).toList.map (·.val)=(ents.toList.map (·.val)).set i b:=by
       apply List.ext_getElem?;intro j;by_cases u:i=j
       ·subst u;simp[A]
       ·simp[u]
      rw[this];exact g.set G i
    ·rename_i r;simp only[aV]at h;subst h;obtain⟨bL,n,o,K⟩:=hy f es ents.toList 0 _ r c g;cases o;refine⟨_,?_,vy q s x (es':=es++[(k,v)]) (ents:=ents.push {key:=a,val:=b,born:=clock}) (clock:=clock+1) ?_ ?_⟩
     ·rw[L _ n];exact C _
     ·simpa using c.append (.cons _ _ _ _ f .nil)
     ·simpa using g.append (.cons _ _ _ _ G .nil)
    ·cases h
   ·split at h
    ·rename_i B;obtain⟨ents,clock,E,F,c,g⟩:=hH (P:=P) q s x;have C:∀aw:Obj,(setObj loc.block aw).run P w= .ok () {w with heap:=w.heap.setIfInBounds loc.block aw}:=λaw=>by simp[setObj,Sem.run,E]
     split at h
     ·rename_i r;simp only[aV]at h;subst h;obtain⟨bL,n,o⟩:=sb z B f w r c g;cases o;refine⟨_,?_,vy q s x (es':=es++[(k,v)]) (ents:=ents.push {key:=a,val:=b,born:=clock}) (clock:=clock+1) ?_ ?_⟩
      ·unfold Instr.mapUpdate;simp only[Sem.run_bind,run_underlying hu,Result.andThen_ok,F];rw[r5 z B f];simp only[Result.andThen_ok,n];exact C _
      ·simpa using c.append (.cons _ _ _ _ f .nil)
      ·simpa using g.append (.cons _ _ _ _ G .nil)
     ·cases h
    ·cases h
  ·cases h
 ·cases h
