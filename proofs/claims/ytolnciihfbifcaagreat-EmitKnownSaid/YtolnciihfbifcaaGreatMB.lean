/-
  Texts of one proof, laid together: Hv7 Hv8 Hv9 Hv10.
-/
import Derived.Test.YtolnciihfbifcaaGreatMA
import Derived.Deep.AppendSrc
set_option linter.unusedVariables false
set_option linter.unusedSimpArgs false
set_option linter.defProp false
open Option renaming some→D,none→Y
open Bool renaming true→V,false→U
namespace Go.cV
section
variable {P:Program}{ρ:Env}{H:af}{w:World}
def dc(P:Program)(t:TypeId)(x:aa)(f:Nat):Option aa:=
 match P.underlying t,x with
 |some (.struct a),.agg cs=>(match a[f]? with|some d=>apart P d.type cs d.offset|none=>Y)
 |_,_=>Y
def Pf{t:TypeId}{x v:aa}{a:Value}{f:Nat}(h:dc P t x f=D v)(i:bb ρ x a)(w:World):∃r,(Instr.field t a f).run P w= .ok r w/\bb ρ v r:=by
 unfold dc at h;split at h
 ·rename_i j cs hu;cases i with|agg _ xs e=>
  split at h
  ·rename_i d g;obtain⟨r,b,c⟩:=k0 h e w;exact⟨r,by simp[Instr.field,run_underlying hu,g,asAgg,b],c⟩
  ·cases h
 ·cases h
def ak(P:Program)(t:TypeId)(x:aa)(f:Nat):Option aa:=
 match P.underlying t,x with
 |some (.struct a),.ptr l i c=>(match a[f]? with|some d=>(match cT P d.type with|some n=>if n=0 then Y else D (.ptr l i (c+d.offset))|none=>Y)|none=>Y)
 |_,_=>Y
def Pe{t:TypeId}{x v:aa}{a:Value}{f:Nat}(h:ak P t x f=D v)(k:bb ρ x a)(w:World):∃r,(Instr.fieldAt t a f).run P w= .ok r w/\bb ρ v r:=by
 unfold ak at h;split at h
 ·rename_i m l i c hu;cases k with|ptr _ _ _ loc g=>
  split at h
  ·rename_i d e;split at h
   ·rename_i n j;split at h
    ·cases h
    ·rename_i b;simp only[a7]at h;subst h;refine⟨_,?_,.ptr l i (c+d.offset) loc g⟩;simp[Instr.fieldAt,run_underlying hu,e,Instr.sureAddr,fieldPlace,run_sizeOf j,b,ke,Nat.add_assoc]
   ·cases h
  ·cases h
 ·cases h
def aH(P:Program)(t:TypeId)(x b:aa):Option aa:=
 match P.underlying t,x,b with
 |some (.slice e),.ag l i n esz _,.int _ k=>(match cT P e with|some a=>if a=esz/\0<=k/\k<n then D (.ptr l (i+k.toNat) 0)else Y|none=>Y)
 |some (.array len e),.ptr l i c,.int _ k=>(match cT P e with|some a=>if 0<=k/\k<len then D (.ptr l i (c+k.toNat*a))else Y|none=>Y)
 |_,_,_=>Y
def Pg{t:TypeId}{x p v:aa}{u q:Value}(h:aH P t x p=D v)(o:bb ρ x u)(m:bb ρ p q)(w:World):∃r,(Instr.indexAt t u q).run P w= .ok r w/\bb ρ v r:=by
 unfold aH at h;split at h
 ·rename_i e l i n esz cap z k hu;cases m;cases o with|ag _ _ _ _ loc a c g C B y=>
  split at h
  ·rename_i s j;split at h
   ·rename_i f;obtain⟨rfl,b,d⟩:=f;simp only[a7]at h;subst h;obtain⟨rfl,_⟩:=y bn;refine⟨_,?_,.ptr l (i+k.toNat) 0 loc g⟩;have A:loc.off+i*loc.esz+k.toNat*loc.esz=loc.off+(i+k.toNat)*loc.esz+0:=by rw[Nat.add_mul];omega
    simp[Instr.indexAt,asIntOf,run_underlying hu,b,d,run_sizeOf j,ke]
   ·cases h
  ·cases h
 ·rename_i len e l i c z k hu;cases m;cases o with|ptr _ _ _ loc g=>
  split at h
  ·rename_i s j;split at h
   ·rename_i f;obtain⟨b,d⟩:=f;simp only[a7]at h;subst h;refine⟨_,?_,.ptr l i (c+k.toNat*s) loc g⟩;simp[Instr.indexAt,asIntOf,run_underlying hu,Instr.sureAddr,b,d,run_sizeOf j,ke,Nat.add_assoc]
   ·cases h
  ·cases h
 ·cases h
def fv(P:Program)(t:TypeId)(x a:aa):Option aa:=
 match P.underlying t,x,a with
 |some .string,.str s,.int _ k=>if 0<=k then(match s[k.toNat]? with|some b=>D (.int .u8 b.toNat)|none=>Y)else Y
 |some (.array len e),.agg cs,.int _ k=>(match cT P e with|some c=>if 0<=k/\k<len then apart P e cs (k.toNat*c)else Y|none=>Y)
 |_,_,_=>Y
def PX(s:List UInt8)(k:Nat):(⟨s.toArray⟩:ByteArray)[k]? =s[k]? :=by
 simp only[getElem?,decidableGetElem?];by_cases h:k<s.length
 ·have bA:k<(⟨s.toArray⟩:ByteArray).size:=by show k<s.toArray.size;simpa using h
  simp[h,bA];rfl
 ·have bA:¬k<(⟨s.toArray⟩:ByteArray).size:=by show¬k<s.toArray.size;simpa using h
  simp[h,bA]
def Ph{t:TypeId}{x d v:aa}{g f:Value}(h:fv P t x d=D v)(c:bb ρ x g)(a:bb ρ d f)(w:World):∃r,(Instr.index t g f).run P w= .ok r w/\bb ρ v r:=by
 unfold fv at h;split at h
 ·rename_i s q k hu;cases a;cases c;split at h
  ·rename_i i;split at h
   ·rename_i b m;simp only[a7]at h;subst h;refine⟨_,?_,.int _ _⟩;simp only[Instr.index,asIntOf,Sem.run_bind,Sem.run_pure,Result.andThen_ok,run_underlying hu,if_pos i,PX,m]
   ·cases h
  ·cases h
 ·rename_i len e cs q k hu;cases a;cases c with|agg _ xs n=>
  split at h
  ·rename_i u p;split at h
   ·rename_i o;obtain⟨r,j,l⟩:=k0 h n w;exact⟨r,by simp[Instr.index,asIntOf,run_underlying hu,o,run_sizeOf p,j],l⟩
   ·cases h
  ·cases h
 ·cases h
def e6(x:Option aa)(a y:Nat):Option Nat:=
 match x with
 |none=>D a
 |some (.int _ k)=>if 0<=k/\k<=y then D k.toNat else Y
 |some _=>Y
def fK(P:Program)(t:TypeId)(x:aa)(b a c:Option aa):Option aa:=
 match P.underlying t,x with
 |some .string,.str s=>
  (match c,e6 a s.length s.length with
  |none,D h=>(match e6 b 0 h with|some l=>D (.str ((s.drop l).take (h-l)))|none=>Y)
  |_,_=>Y)
 |some (.slice e),.ag l i n esz cap=>
  (match cT P e,c with
  |some d,Y=>
   if d=esz then
    (match e6 a n (cap.getD n)with
    |some h=>(match e6 b 0 h with|some k=>D (.ag l (i+k) (h-k) esz (cap.map (· -k)))|none=>Y)
    |none=>Y)
   else Y
  |some d,D m=>
   if d=esz then
    (match e6 (D m) 0 (cap.getD n)with
    |some m=>(match a,e6 a 0 m with
     |some _,D h=>(match e6 b 0 h with|some k=>D (.ag l (i+k) (h-k) esz (D (m-k)))|none=>Y)
     |_,_=>Y)
    |none=>Y)
   else Y
  |_,_=>Y)
 |some (.slice e),.ao=>
  (match cT P e,c with
  |some _,Y=>(match e6 a 0 0 with
   |some h=>(match e6 b 0 h with|some _=>D .ao|none=>Y)
   |none=>Y)
  |some _,D m=>(match e6 (D m) 0 0 with
   |some m=>(match a,e6 a 0 m with
    |some _,D h=>(match e6 b 0 h with|some _=>D .ao|none=>Y)
    |_,_=>Y)
   |none=>Y)
  |_,_=>Y)
 |_,_=>Y
inductive nx(ρ:Env):Option aa->Option Value->Prop where
 |none:nx ρ none none
 |some (v:aa) (x:Value) (h:bb ρ v x):nx ρ (some v) (some x)
def gk{v:aa}{x:Value}{d y k:Nat}(h:e6 (D v) d y=D k)(c:bb ρ v x)(code:BoundsCode){b:Nat}(f:y<=b)(w:World):
  (Instr.sliceBound x b code).run P w= .ok k w/\k<=y:=by
 unfold e6 at h;split at h
 ·rename_i a;cases a
 ·rename_i g n a;cases a;cases c;split at h
  ·rename_i e;simp only[a7]at h;subst h;refine⟨?_,bn⟩;simp only[Instr.sliceBound,asIntOf,Sem.run_bind,Sem.run_pure,Result.andThen_ok];rw[if_pos bn];exact Sem.run_pure ..
  ·cases h
 ·cases h
def Qa(s:List UInt8)(l h:Nat):(⟨s.toArray⟩:ByteArray).extract l h=⟨((s.drop l).take (h-l)).toArray⟩:=by
 apply ByteArray.ext;simp[ByteArray.data_extract,List.extract_eq_take_drop]
def PF{t:TypeId}{x v:aa}{ae:Value}{ab T ad:Option aa}{z C A:Option Value}(h:fK P t x ab T ad=D v)(O:bb ρ x ae)(j:nx ρ ab z)(y:nx ρ T C)(E:nx ρ ad A)(w:World):
  ∃r,(Instr.sliceAt t ae z C A).run P w= .ok r w/\bb ρ v r:=by
 unfold fK at h;split at h
 ·rename_i s hu;cases O;have u:(⟨s.toArray⟩:ByteArray).size=s.length:=by show s.toArray.size=_;simp
  split at h
  ·rename_i g f;cases E;split at h
   ·rename_i l p;simp only[a7]at h;subst h;refine⟨_,?_,.str _⟩;have o:∃m,(Instr.sliceBounds U s.length s.length z C Y).run P w= .ok (l,g,m) w:=by
     refine⟨s.length,?_⟩;cases y with
     |none=>
      simp only[e6,a7]at f;subst f;cases j with
      |none=>simp only[e6,a7]at p;subst p;simp[Instr.sliceBounds]
      |some v x b=>simp[Instr.sliceBounds,(gk p b _ (cW _) w).1]
     |some v x b=>
      have:=(gk (P:=P) f b .sliceAlen (cW _) w).1;cases j with
      |none=>simp only[e6,a7]at p;subst p;simp[Instr.sliceBounds,this]
      |some v x b=>simp[Instr.sliceBounds,this,(gk p b _ (cW _) w).1]
    obtain⟨m,o⟩:=o;simp[Instr.sliceAt,Instr.slice,run_underlying hu,u,o,Qa]
   ·cases h
  ·cases h
 ·rename_i e l i n esz cap hu;cases O with|ag _ _ _ _ loc a c p an S R=>
  have H:cap.getD n<=c:=by
   cases B:cap with
   |none=>exact an
   |some k=>have:=S k B;simp;omega
  split at h
  ·rename_i Q u;cases E;split at h
   ·rename_i M;subst M;split at h
    ·rename_i g f;split at h
     ·rename_i k d;simp only[a7]at h;subst h;have au:g<=c:=by
       cases y with
       |none=>simp only[e6,a7]at f;omega
       |some v x b=>have:=(gk (P:=P) f b .sliceAcap H w).2;omega
      have W:k<=g:=by
       cases j with
       |none=>simp only[e6,a7]at d;omega
       |some v x b=>exact(gk (P:=P) d b .sliceB (cW _) w).2
      have o:(Instr.sliceBounds V n c z C Y).run P w= .ok (k,g,c) w:=by
       cases y with
       |none=>
        simp only[e6,a7]at f;subst f;cases j with
        |none=>simp only[e6,a7]at d;subst d;simp[Instr.sliceBounds]
        |some v x b=>simp[Instr.sliceBounds,(gk d b _ (cW _) w).1]
       |some v x b=>
        have:=(gk (P:=P) f b .sliceAcap H w).1;cases j with
        |none=>simp only[e6,a7]at d;subst d;simp[Instr.sliceBounds,this]
        |some v x b=>simp[Instr.sliceBounds,this,(gk d b _ (cW _) w).1]
      refine⟨.slice (D (if c=k then a else a.add (k*loc.esz))) (g-k) (c-k),?_,?_⟩
      ·simp[Instr.sliceAt,Instr.slice,run_underlying hu,o,run_sizeOf u];split<;>rfl
      ·refine .ag l (i+k) (g-k) _ loc _ (c-k) p bn (λm hm=> ?_) (λap=> ?_)
       ·cases B:cap with
        |none=>rw[B]at hm;cases hm
        |some q=>rw[B]at hm;simp at hm;have:=S q B;omega
       ·obtain⟨rfl,K⟩:=R bn;rw[if_neg bn,ke];refine⟨?_,?_⟩
        ·congr 1;rw[Nat.add_mul];omega
        ·rw[show i+k+(c-k)=i+c by omega];exact K
     ·cases h
    ·cases h
   ·cases h
  ·rename_i Q ar u;cases E with|some _ A L=>
   split at h
   ·rename_i M;subst M;split at h
    ·rename_i m hm;obtain⟨G,am⟩:=gk (P:=P) hm L .slice3Acap H w;split at h
     ·rename_i b g f;cases y with|some _ x N=>
      obtain⟨F,ai⟩:=gk (P:=P) f N .slice3B (cW _) w;split at h
      ·rename_i k d;simp only[a7]at h;subst h;have W:k<=g:=by
        cases j with
        |none=>simp only[e6,a7]at d;omega
        |some v x b=>exact(gk (P:=P) d b .sliceB (cW _) w).2
       have o:(Instr.sliceBounds V n c z (D x) (D A)).run P w= .ok (k,g,m) w:=by
        cases j with
        |none=>simp only[e6,a7]at d;subst d;simp[Instr.sliceBounds,G,F]
        |some v x b=>simp[Instr.sliceBounds,G,F,(gk d b _ (cW _) w).1]
       refine⟨.slice (D (if m=k then a else a.add (k*loc.esz))) (g-k) (m-k),?_,?_⟩
       ·simp[Instr.sliceAt,Instr.slice,run_underlying hu,o,run_sizeOf u];split<;>rfl
       ·refine .ag l (i+k) (g-k) _ loc _ (m-k) p bn (λq aq=>by simpa using aq) (λap=> ?_);obtain⟨rfl,K⟩:=R bn;rw[if_neg bn,ke];refine⟨?_,?_⟩
        ·congr 1;rw[Nat.add_mul];omega
        ·refine Nat.le_trans (Nat.add_le_add_left (Nat.mul_le_mul_right _ ?_) _) K;omega
      ·cases h
     ·cases h
    ·cases h
   ·cases h
  ·cases h
 ·rename_i e hu;cases O;split at h
  ·rename_i Q u;cases E;split at h
   ·rename_i g f;split at h
    ·rename_i k d;simp only[a7]at h;subst h;have af:g=0:=by
      cases y with
      |none=>simp only[e6,a7]at f;omega
      |some v x b=>have:=(gk (P:=P) f b .sliceAcap (cW _) w).2;omega
     subst af;have aj:k=0:=by
      cases j with
      |none=>simp only[e6,a7]at d;omega
      |some v x b=>have:=(gk (P:=P) d b .sliceB (cW _) w).2;omega
     subst aj;refine⟨.slice Y 0 0,?_,.ao⟩;have o:(Instr.sliceBounds V 0 0 z C Y).run P w= .ok (0,0,0) w:=by
      cases y with
      |none=>
       cases j with
       |none=>simp[Instr.sliceBounds]
       |some v x b=>simp[Instr.sliceBounds,(gk d b _ (cW _) w).1]
      |some v x b=>
       have:=(gk (P:=P) f b .sliceAcap (cW _) w).1;cases j with
       |none=>simp[Instr.sliceBounds,this]
       |some v x b=>simp[Instr.sliceBounds,this,(gk d b _ (cW _) w).1]
     simp[Instr.sliceAt,Instr.slice,run_underlying hu,o,run_sizeOf u]
    ·cases h
   ·cases h
  ·rename_i Q ar u;cases E with|some _ A L=>
   split at h
   ·rename_i m hm;obtain⟨G,am⟩:=gk (P:=P) hm L .slice3Acap (cW _) w;split at h
    ·rename_i b g f;cases y with|some _ x N=>
     obtain⟨F,ai⟩:=gk (P:=P) f N .slice3B (cW _) w;split at h
     ·rename_i k d;simp only[a7]at h;subst h;have W:k<=g:=by
       cases j with
       |none=>simp only[e6,a7]at d;omega
       |some v x b=>exact(gk (P:=P) d b .sliceB (cW _) w).2
      have al:m=0:=bn;have ah:g=0:=bn;have ak:k=0:=bn;subst al;subst ah;subst ak;have o:(Instr.sliceBounds V 0 0 z (D x) (D A)).run P w= .ok (0,0,0) w:=by
       cases j with
       |none=>simp[Instr.sliceBounds,G,F]
       |some v x b=>simp[Instr.sliceBounds,G,F,(gk d b _ (cW _) w).1]
      exact⟨.slice Y 0 0,by simp[Instr.sliceAt,Instr.slice,run_underlying hu,o,run_sizeOf u],.ao⟩
     ·cases h
    ·cases h
   ·cases h
  ·cases h
 ·cases h
end
section
variable {P:Program}{ρ:Env}{H:af}{w:World}
def I0(c:Array Value):∀(d:List aa) (aA:Nat),(∀(j:Nat) (v:aa),d[j]? =D v->v.one=V/\∃x,c[aA+j]? =D x/\bb ρ v x)->
  ∃xs:List Value,bj ρ d xs/\(∀j u,xs[j]? =D u->c[aA+j]? =D u)/\∀u∈xs,u.oneCell'=V
 |[],_,_=>⟨[],.nil,λj u h=>by simp at h,λu h=>by cases h⟩
 |v::d,aA,h=>by
  obtain⟨i,x,k,b⟩:=h 0 v rfl;obtain⟨xs,e,f,g⟩:=I0 c d (aA+1) (λj u a=>by have:=h (j+1) u (by simpa using a);rwa[show aA+(j+1)=aA+1+j by omega]at this);refine⟨x::xs,.cons _ _ _ _ b e,?_,?_⟩
  ·intro j u a;cases j with
   |zero=>simp at a;subst a;exact k
   |succ j=>rw[show aA+(j+1)=aA+1+j by omega];exact f j u (by simpa using a)
  ·intro u hu;rcases List.mem_cons.1 hu with rfl|hu
   ·exact b.E_ i
   ·exact g u hu
def N3(c:Array Value)(esz:Nat):∀(els:List (List aa)) (aA:Nat),(∀(i:Nat) (e:List aa),els[i]? =D e->e.length=esz/\∀(j:Nat) (v:aa),e[j]? =D v->v.one=V/\∃x,c[aA+i*esz+j]? =D x/\bb ρ v x)->
  ∃xs:List Value,bj ρ els.flatten xs/\(∀j u,xs[j]? =D u->c[aA+j]? =D u)/\∀u∈xs,u.oneCell'=V
 |[],_,_=>⟨[],by simpa using bj.nil,λj u h=>by simp at h,λu h=>by cases h⟩
 |d::els,aA,h=>by
  obtain⟨p,n⟩:=h 0 d rfl;obtain⟨b,f,g,a3⟩:=I0 c d aA (λj v a=>by simpa using n j v a);obtain⟨xs,k,l,m⟩:=N3 c esz els (aA+esz) (λi e he=>by
   have:=h (i+1) e (by simpa using he);rw[Nat.succ_mul]at this;refine⟨this.1,λj v a=> ?_⟩;have:=this.2 j v a;rwa[show aA+(i*esz+esz)+j=aA+esz+i*esz+j by omega]at this)
  have q:=f.length;refine⟨b++xs,by simpa using f.append k,?_,?_⟩
  ·intro j u a;by_cases o:j<b.length
   ·rw[List.getElem?_append_left o]at a;exact g j u a
   ·rw[List.getElem?_append_right bn]at a;have:=l _ u a;rwa[show aA+esz+(j-b.length)=aA+j by omega]at this
  ·intro u hu;rcases List.mem_append.1 hu with hu|hu
   ·exact a3 u hu
   ·exact m u hu
def iP(H:af)(l i n esz:Nat):Option (List (List aa)):=
 match H.get l with
 |some (.row _ a els)=>if a=esz/\i+n<=els.length then D ((els.drop i).take n)else Y
 |some (.dp _ a els)=>if a=esz/\i+n<=els.length then D ((els.drop i).take n)else Y
 |_=>Y
def zt{els:List (List aa)}{i n k:Nat}{e:List aa}(h:((els.drop i).take n)[k]? =D e):els[i+k]? =D e:=by
 rw[List.getElem?_take]at h;split at h
 ·rw[List.getElem?_drop]at h;exact h
 ·cases h
def IB{ro:Bool}{i n:Nat}{loc:Loc}{l:Nat}{els a:List (List aa)}(x:fE ρ w loc ro l els)(h:(if l=loc.esz/\i+n<=els.length then D ((els.drop i).take n)else Y)=D a):
  a.length=n/\(∀e∈a,e.length=loc.esz)/\(∀e∈a,∀v∈e,v.one=V)/\
  ∃xs:List Value,bj ρ a.flatten xs/\xs.length=n*loc.esz/\(∀j u,xs[j]? =D u->w.cell? ⟨loc.block,loc.off+i*loc.esz+j,Y⟩=D u)/\∀u∈xs,u.oneCell'=true:=by
 ·split at h
  ·rename_i s;obtain⟨rfl,hle⟩:=s;simp only[a7]at h;subst h;obtain⟨_,c,t,z,r,_,f⟩:=x;have hlen:((els.drop i).take n).length=n:=by simp;omega
   have m:∀e∈(els.drop i).take n,e.length=loc.esz:=λe he=>by
    obtain⟨k,d⟩:=List.getElem?_of_mem he;exact(f _ e (zt d)).1
   have q:∀e∈(els.drop i).take n,∀v∈e,v.one=true:=λe he v y=>by
    obtain⟨k,d⟩:=List.getElem?_of_mem he;obtain⟨j,b⟩:=List.getElem?_of_mem y;exact((f _ e (zt d)).2 j v b).1
   refine⟨hlen,m,q,?_⟩;obtain⟨xs,g,o,p⟩:=N3 (ρ:=ρ) c loc.esz ((els.drop i).take n) (loc.off+i*loc.esz) (λk e d=>by
    have:=f _ e (zt d);refine⟨this.1,λj v b=> ?_⟩;have:=this.2 j v b;rwa[Nat.add_mul,<-Nat.add_assoc]at this)
   refine⟨xs,g,by rw[<-g.length,k5 m,hlen],λj u b=> ?_,p⟩;simp[World.cell?,r,o j u b]
  ·cases h
def C_(g:Rel ρ H w){l i n:Nat}{loc:Loc}{a:List (List aa)}(h:iP H l i n loc.esz=D a)(k:ρ l=D loc):
  a.length=n/\(∀e∈a,e.length=loc.esz)/\(∀e∈a,∀v∈e,v.one=V)/\
  ∃xs:List Value,bj ρ a.flatten xs/\xs.length=n*loc.esz/\(∀j u,xs[j]? =D u->w.cell? ⟨loc.block,loc.off+i*loc.esz+j,Y⟩=D u)/\∀u∈xs,u.oneCell'=true:=by
 unfold iP at h;split at h
 ·rename_i ro m els b;obtain⟨f,c,d⟩:=g.row _ _ _ _ b;obtain rfl:loc=f:=Option.some.inj (k.symm.trans c);exact IB d h
 ·rename_i t m els b;obtain⟨f,c,d,_⟩:=g.dp _ _ _ _ b;obtain rfl:loc=f:=Option.some.inj (k.symm.trans c);exact IB d h
 ·cases h
def Di(P:Program)(H:af)(c:TypeId)(esz:Nat)(x:aa):Option (List (List aa)):=
 match P.underlying c,x with
 |some (.slice _),.ag l i n a _=>if a=esz then(if n=0 then D []else iP H l i n esz)else Y
 |some (.slice _),.ao=>D []
 |some .string,.str s=>if esz=1 then D (s.map λb=>[.int .u8 b.toNat])else Y
 |_,_=>Y
def PW(s:List UInt8):bj ρ ((s.map λb=>[aa.int .u8 b.toNat]).flatten) (byteCells ⟨s.toArray⟩):=by
 unfold byteCells;show bj ρ _ (s.map _)
 induction s with
 |nil=>exact .nil
 |cons b s a=>exact .cons _ _ _ _ (.int _ _) a
def Pv(B:Rel ρ H w){o:TypeId}{esz:Nat}{x:aa}{p:Value}{b:List (List aa)}(h:Di P H o esz x=D b)(k:bb ρ x p):
  (∀e∈b,e.length=esz)/\(∀e∈b,∀v∈e,v.one=V)/\∃news:List Value,bj ρ b.flatten news/\Src P esz o p b.length news w:=by
 unfold Di at h;split at h
 ·rename_i e l i n K cap hu;split at h
  ·rename_i he;subst he;cases k with|ag _ _ _ _ loc a c E M L C=>
   by_cases f:n=0
   ·subst f;simp only[if_true,a7]at h;subst h;exact⟨by simp,by simp,[],by simpa using bj.nil,Src.ofSlice w hu a 0 c [] (by simp) (λj u d=>by simp at d) (λu hu=>by cases hu)⟩
   rw[if_neg f]at h;obtain⟨q,r,t,xs,y,g,z,A⟩:=C_ B h E;refine⟨r,t,xs,y,?_⟩;rw[q];refine Src.ofSlice w hu a n c xs g (λj u d=> ?_) A;have F:0<c:=by
    rcases Nat.eq_zero_or_pos c with m|m
    ·have f:n=0:=bn;rw[f]at g;have:xs=[]:=List.eq_nil_of_length_eq_zero (by simpa using g);subst this;simp at d
    ·exact m
   obtain⟨rfl,_⟩:=C F;rw[ke];exact z j u d
  ·cases h
 ·rename_i e hu;cases k;simp only[a7]at h;subst h;exact⟨by simp,by simp,[],by simpa using bj.nil,Src.ofNil w hu 0⟩
 ·rename_i s hu;split at h
  ·rename_i he;subst he;cases k;simp only[a7]at h;subst h;refine⟨by simp,by simp[aa.one],_,PW s,?_⟩;have:=Src.ofString w hu (⟨s.toArray⟩:ByteArray);have G:(⟨s.toArray⟩:ByteArray).size=s.length:=by show s.toArray.size=_;simp
   rw[G]at this;simpa using this
  ·cases h
 ·cases h
def mv(P:Program)(t:TypeId):Option Nat:=(P.info? t).map (·.bytes)
def Dk(x:aa)(e:TypeId):Option TypeId:=match x with
 | .str _=>D e
 |_=>Y
def Px{x:aa}{e:TypeId}:∀a,Dk x e=D a->a=e:=by
 intro a h;unfold Dk at h;split at h
 ·exact(Option.some.inj h).symm
 ·cases h
def DS(P:Program)(t:TypeId):Bool:=match P.underlying t with
 |some (.int .i64)=>V
 |_=>U
def R2{P:Program}{t:TypeId}(h:DS P t=V):P.underlying t=D (.int .i64):=by
 unfold DS at h;split at h
 ·assumption
 ·cases h
def Df(P:Program)(H:af)(e:TypeId)(s x:aa):Option (aa×af):=
 match s,x with
 | .ao,.int .i64 (.ofNat n)=>(match cT P e,mv P e,gv P e with
  |some esz,D a,D z=>
   if 0<n/\z.cells.length=esz/\0<esz/\z.cells.all aa.one=V/\n*a<=140737488355328/\n<=1125899906842624 then D (.ag H.next 0 n esz Y,H.push (.row U esz (List.replicate n z.cells)))else Y
  |_,_,_=>Y)
 |_,_=>Y
def bx(P:Program)(H:af)(ts:List TypeId)(s x:aa):Option (aa×af):=
 match ts with
 |[t,c]=>
  (match P.underlying t with
  |some (.slice e)=>
   if DS P c=V then Df P H e s x else
   (match cT P e,mv P e,gv P e with
   |some esz,D b,D z=>
    (match Di P H c esz x with
    |some a=>
     if z.cells.length=esz/\0<esz then
      (match s with
      | .ao=>if a.length=0 then D (.ao,H)else
       if a.length*b<=140737488355328/\a.length<=9223372036854775807 then D (.ag H.next 0 a.length esz Y,H.push (eL (Dk x e) esz a))else Y
      | .ag l i n d cap=>
       if d=esz then
        if a.length=0 then D (s,H)
        else if(n+a.length)*b<=140737488355328/\n+a.length<=9223372036854775807 then
         (match iP H l i n esz with
         |some os=>
          if cap.any (· <n+a.length)=V then D (.ag H.next 0 (n+a.length) esz Y,H.push (.row U esz (os++a)))
          else if cap=Y then
           (match H.get l with
           |some (.row U _ _)=>D (.ag H.next 0 (n+a.length) esz Y,(H.set l .dead).push (.row U esz (os++a)))
           |some (.dp t0 _ _)=>if t0=e/\i=0 then D (.ag H.next 0 (n+a.length) esz Y,(H.set l .dead).push (.dp t0 esz (os++a)))else Y
           |_=>Y)
          else Y
         |none=>Y)
        else Y
       else Y
      |_=>Y)
     else Y
    |none=>Y)
   |_,_,_=>Y)
  |_=>Y)
 |_=>Y
def N6(w:World)(t d ty e:TypeId)(i:P.underlying t=D (.slice e)){esz:Nat}(h:cT P e=D esz)(base:Option Addr)(n c:Nat)(g:n<=c)(x:Value)(a:Src P esz d x 0 [] w):
  (Builtin.append_ #[t,d] ty #[.slice base n c,x]).run P w= .ok (.slice base n c) w:=by
 have f:=a.cells;rcases a.kind with⟨j,b⟩|b<;>cases base<;>
  simp[Builtin.append_,run_underlying i,run_underlying b,run_sizeOf h,a.len,g,f,storeCells]
def DN(B:Rel ρ H w)(F:ρ H.next=Y){ot:Option TypeId}{t j e:TypeId}(M:∀u,ot=D u->u=e)(ty:TypeId)(Q:P.underlying t=D (.slice e)){esz m:Nat}{z:aa}(g:cT P e=D esz)(f:mv P e=D m)(h:gv P e=D z)
  (S:z.cells.length=esz) (aj:0<esz)
  {a os:List (List aa)} (d1:∀e∈a,e.length=esz) (d2:∀e∈a,∀v∈e,v.one=V) {news:List Value} (d3:bj ρ a.flatten news) {l:Value} (O:Src P esz j l a.length news w)
  (q:∀e∈os,e.length=esz) (ah:∀e∈os,∀v∈e,v.one=V) {olds:List Value} (s:bj ρ os.flatten olds) (base:Option Addr) (n c:Nat) (L:os.length=n)
  (hold:(Builtin.firstCells esz n (.slice base n c)).run P w.drew= .ok olds.toArray w.drew) (o:c<n+a.length) (E:(n+a.length)*m<=140737488355328) (ai:n+a.length<=9223372036854775807):
  ∃r x y,(Builtin.append_ #[t,j] ty #[.slice base n c,l]).run P w= .ok r x/\bb y (.ag H.next 0 (n+a.length) esz Y) r/\Step ρ H w y (H.push (eL ot esz (os++a))) x:=by
 unfold gv at h;unfold cT at g;unfold mv at f;simp only[dG]at h;obtain⟨i,p,d,W,ab⟩:=h;rw[p]at g f;simp only[Option.map_some,a7]at g f;subst g;subst f;have R:=(zl ab ρ).cells;have T:d.cells.size=i.size:=by have:=R.length;rw[S]at this;simpa using this.symm
 have N:=run_append_grow_src (P:=P) w t j ty e i d Q p W base n c olds hold l a.length news O o bn (growslice_fits o E);have C:Rel ρ H w.drew:=B.drew;have b:=q4 (w:=w.drew) C F (ot:=ot) (esz:=i.size) (els:=os++a) (λe he=>(List.mem_append.1 he).elim (q e) (d1 e)) (λe he=>(List.mem_append.1 he).elim (ah e) (d2 e))
  (xs:=olds++news) (tail:=(Builtin.zeroCells d.cells (grownCap w (n+a.length) c e-(n+a.length))).toList) (by simpa using s.append d3) e M
 have A:((olds++news)++(Builtin.zeroCells d.cells (grownCap w (n+a.length) c e-(n+a.length))).toList).toArray=(olds++news).toArray++Builtin.zeroCells d.cells (grownCap w (n+a.length) c e-(n+a.length)):=by
  apply Array.ext';simp
 rw[A]at b;refine⟨_,_,_,N,?_,⟨b.le,b.next,b.hp,b.rel,b.os,b.tape,b.output,b.size,b.frame,b.own,b.ro⟩⟩;have G:=grownCap_ge w (n+a.length) c e;refine bb.ag (ρ:=ρ.eC H.next _) H.next 0 (n+a.length) Y _ _ (grownCap w (n+a.length) c e) (Env.fQ _ _ _) G (λk K=>by cases K) (λ_=>⟨by show(⟨w.heap.size,0,Y⟩:Addr)=⟨w.heap.size,0+0*i.size,Y⟩;simp,?_⟩)
 have ad:olds.length=n*i.size:=by rw[<-s.length,k5 q,L]
 have ae:news.length=a.length*i.size:=by rw[<-d3.length,k5 d1]
 have af:(Builtin.zeroCells d.cells (grownCap w (n+a.length) c e-(n+a.length))).size=(grownCap w (n+a.length) c e-(n+a.length))*i.size:=by rw[size_zeroCells,T]
 simp only[Nat.zero_add,List.length_append,ad,ae,Array.length_toList,af];rw[<-Nat.add_mul,<-Nat.add_mul];exact Nat.mul_le_mul_right _ bn
def afN(z:Rel ρ H w)(ax:ρ H.next=Y){ot:Option TypeId}{l i n esz:Nat}{els:List (List aa)}(C:H.get l=D (eL ot esz els)){loc:Loc}(N:ρ l=D loc)(aQ:i+n<=els.length)
  {d:List (List aa)} (d1:∀e∈d,e.length=esz) (d2:∀e∈d,∀v∈e,v.one=V) {news:List Value} (d3:bj ρ d.flatten news) (aP:loc.off+(i+n+d.length)*esz<=loc.size) (aE:∀r,ot=D r->i=0):
  Step ρ H w (ρ.eC H.next ⟨loc.block,loc.off+i*esz,esz,loc.size⟩) ((H.set l .dead).push (eL ot esz ((els.drop i).take n++d))) (w.setCells loc.block (loc.off+(i+n)*esz) news):=by
 have aC:=af.iT C;obtain⟨f,m,⟨_,arr,t,ah,R,al,aH⟩,aK⟩:=zi z C;obtain rfl:loc=f:=Option.some.inj (N.symm.trans m);have aI:=al.1;have ay:=al.2 rfl;have hle:=Env.oI ax ⟨loc.block,loc.off+i*esz,esz,loc.size⟩;have aS:news.length=d.length*esz:=by rw[<-d3.length,k5 d1]
 obtain⟨s1,s2,pn,CS⟩:=Ie loc.block news (loc.off+(i+n)*esz) w;have y:∀k,k≠H.next->k≠l->((H.set l .dead).push (eL ot esz ((els.drop i).take n++d))).get k=H.get k:=λk B o=>by
  rw[af.fL (by simpa using B),af.gm (Ne.symm o)]
 have u:((H.set l .dead).push (eL ot esz ((els.drop i).take n++d))).get l=D .dead:=by
  rw[af.fL (by simp;omega),af.iJ aC]
 have L:((H.set l .dead).push (eL ot esz ((els.drop i).take n++d))).get H.next=D (eL ot esz ((els.drop i).take n++d)):=af.hv (H.set l .dead) _
 have ar:∀k,((H.set l .dead).push (eL ot esz ((els.drop i).take n++d))).rw k->k≠H.next->H.rw k/\k≠l:=λk h a=>by
  have c:k≠l:=by rintro rfl;rcases h with⟨_,_,h⟩|⟨_,h⟩|⟨_,_,_,h⟩<;>(rw[u]at h;cases h)
  simpa [af.rw,y k a c,c]using h
 have an:∀k,((H.set l .dead).push (eL ot esz ((els.drop i).take n++d))).live k->k≠H.next->H.live k/\k≠l:=λk h a=>by
  have c:k≠l:=by rintro rfl;rcases h with⟨_,_,_,h⟩|⟨_,h⟩|⟨_,_,_,h⟩<;>(rw[u]at h;cases h)
  simpa [af.live,y k a c,c]using h
 have E:∀k f,H.live k->k≠l->ρ k=D f->f.block≠loc.block:=λk f h bA e heq=>
  z.apart l k loc f (mU C) h (Ne.symm bA) N e heq.symm
 have key:fE (ρ.eC H.next ⟨loc.block,loc.off+i*esz,esz,loc.size⟩) (w.setCells loc.block (loc.off+(i+n)*esz) news) ⟨loc.block,loc.off+i*esz,esz,loc.size⟩ U esz ((els.drop i).take n++d)/\
   (w.setCells loc.block (loc.off+(i+n)*esz) news).heap[loc.block]? =D (.cells (h2 arr (loc.off+(i+n)*esz) news) t ah):=by
  refine⟨⟨rfl,_,t,ah,xq _ _ _ _ _ _ _ R,⟨by rw[q5];exact aI,λ_=>by rw[q5];exact ay⟩,?_⟩,xq _ _ _ _ _ _ _ R⟩;intro q e he;have aB:((els.drop i).take n).length=n:=by simp;omega
  by_cases aT:q<n
  ·rw[List.getElem?_append_left bn]at he;have aw:=zt he;obtain⟨a0,O⟩:=aH _ e aw;refine⟨a0,λj v g=> ?_⟩;obtain⟨P,x,G,F⟩:=O j v g;refine⟨P,x,?_,F.mono hle⟩;have az:j<esz:=by
    rcases Nat.lt_or_ge j e.length with h|h
    ·omega
    ·rw[List.getElem?_eq_none h]at g;cases g
   show(h2 arr (loc.off+(i+n)*esz) news)[loc.off+i*esz+q*esz+j]? =D x;rw[oN _ _ _ _ (by have:=qM (n:=esz) (show i+q<i+n by omega);rw[Nat.add_mul]at this;omega)];rw[show loc.off+i*esz+q*esz+j=loc.off+(i+q)*esz+j by rw[Nat.add_mul];omega];exact G
  ·rw[List.getElem?_append_right bn,aB]at he;refine⟨d1 e (List.mem_of_getElem? he),λj v g=> ?_⟩;obtain⟨x,G,F⟩:=d3.get _ _ (DG d1 he g);refine⟨d2 e (List.mem_of_getElem? he) v (List.mem_of_getElem? g),x,?_,F.mono hle⟩;have aF:q-n<d.length:=by
    rcases Nat.lt_or_ge (q-n) d.length with h|h
    ·exact h
    ·rw[List.getElem?_eq_none h]at he;cases he
   have az:j<esz:=by
    have:=d1 e (List.mem_of_getElem? he);rcases Nat.lt_or_ge j e.length with h|h
    ·omega
    ·rw[List.getElem?_eq_none h]at g;cases g
   have aO:=qM (n:=esz) aF;have aR:(i+n+d.length)*esz=(i+n)*esz+d.length*esz:=Nat.add_mul _ _ _;have:=zu news arr (loc.off+(i+n)*esz) ((q-n)*esz+j) x G bn;show(h2 arr (loc.off+(i+n)*esz) news)[loc.off+i*esz+q*esz+j]? =D x;rw[show loc.off+i*esz+q*esz+j=loc.off+(i+n)*esz+((q-n)*esz+j) by
    have:q*esz=n*esz+(q-n)*esz:=by rw[<-Nat.add_mul];congr 1;omega
    rw[Nat.add_mul];omega]
   exact this
 refine⟨hle,by simp,λk a=>Env.gj (by simp at a;omega),⟨?_,?_,?_,?_⟩,s2,pn,CS,Nat.le_of_eq s1.symm,?_,?_,?ro⟩
 case ro=>
  intro k ae ad h;by_cases a:k=H.next
  ·subst a;rw[L]at h;have:=Ez ot esz ((els.drop i).take n++d);rw[Option.some.inj h]at this;cases this
  ·by_cases c:k=l
   ·subst c;rw[u]at h;cases h
   ·rwa[y k a c]at h
 ·intro k aV ae ad h;by_cases a:k=H.next
  ·subst a;rw[L]at h;obtain⟨rfl,rfl,rfl,-⟩:=EA (Option.some.inj h);exact⟨_,Env.fQ _ _ _,key.1⟩
  ·by_cases c:k=l
   ·subst c;rw[u]at h;cases h
   ·rw[y k a c]at h;obtain⟨f,m,aL,au,r,av,T,W,ab⟩:=z.row _ _ _ _ h;have p:=E k f (.inl ⟨_,_,_,h⟩) c m;refine⟨f,by rw[Env.gj a];exact m,aL,au,r,av,by rw[j_ _ _ _ _ _ p];exact T,W,?_⟩;intro q e he;obtain⟨a0,O⟩:=ab q e he;refine⟨a0,λj v g=> ?_⟩;obtain⟨P,x,G,F⟩:=O j v g;exact⟨P,x,G,F.mono hle⟩
 ·intro k es h;by_cases a:k=H.next
  ·subst a;rw[L]at h;exact(Ey (Option.some.inj h)).elim
  ·by_cases c:k=l
   ·subst c;rw[u]at h;cases h
   ·rw[y k a c]at h;obtain⟨f,m,ents,clock,T,W,ab⟩:=z.map _ _ h;have p:=E k f (.inr (.inl ⟨_,h⟩)) c m;exact⟨f,by rw[Env.gj a];exact m,ents,clock,by rw[j_ _ _ _ _ _ p];exact T,W.mono hle,ab.mono hle⟩
 ·intro k r ae ad h;by_cases a:k=H.next
  ·subst a;rw[L]at h;obtain⟨ai,rfl,rfl⟩:=EB (Option.some.inj h);obtain⟨aM,aN,ak,aU⟩:=aK r ai;obtain rfl:=aE r ai;have aJ:r=t:=by rw[R]at ak;cases ak;rfl
   subst aJ;exact⟨_,Env.fQ _ _ _,key.1,_,_,key.2,by show loc.off+0*esz=0;omega⟩
  ·by_cases c:k=l
   ·subst c;rw[u]at h;cases h
   ·rw[y k a c]at h;obtain⟨f,m,aG⟩:=z.dp _ _ _ _ h;have p:=E k f (.inr (.inr ⟨_,_,_,h⟩)) c m;exact⟨f,by rw[Env.gj a];exact m,aG.frame hle (j_ _ _ _ _ _ p)⟩
 ·intro k K ap aq B o p A s;by_cases a:k=H.next
  ·subst a;rw[Env.fQ]at A;obtain rfl:=Option.some.inj A;obtain⟨Q,am⟩:=an K o (Ne.symm p);rw[Env.gj (Ne.symm p)]at s;exact(E K aq Q am s).symm
  ·obtain⟨M,aA⟩:=ar k B a;rw[Env.gj a]at A;by_cases S:K=H.next
   ·subst S;rw[Env.fQ]at s;obtain rfl:=Option.some.inj s;exact E k ap M.live aA A
   ·obtain⟨Q,am⟩:=an K o S;rw[Env.gj S]at s;exact z.apart k K ap aq M Q p A s
 ·intro b _ aD;refine j_ _ _ _ _ _ ?_;rintro rfl;exact aD ⟨l,loc,mU C,N,rfl⟩
 ·rintro b ⟨k,f,B,o,aj⟩;by_cases a:k=H.next
  ·subst a;rw[Env.fQ]at o;obtain rfl:=Option.some.inj o;exact .inl ⟨l,loc,mU C,N,aj⟩
  ·obtain⟨M,_⟩:=ar k B a;rw[Env.gj a]at o;exact .inl ⟨k,f,M,o,aj⟩
def Step.dead{r:Env}{f d:af}{q:World}(h:Step ρ H w r f q)(o:d.next=f.next)(n:∀k,d.get k=f.get k\/d.get k=D .dead):Step ρ H w r d q:=by
 have g:∀k ro esz els,d.get k=D (.row ro esz els)->f.get k=D (.row ro esz els):=λk ro esz els e=>by
  rcases n k with h|h
  ·rw[<-h];exact e
  ·rw[h]at e;cases e
 have get_map:∀k es,d.get k=D (.map es)->f.get k=D (.map es):=λk es e=>by
  rcases n k with h|h
  ·rw[<-h];exact e
  ·rw[h]at e;cases e
 have i:∀k t esz els,d.get k=D (.dp t esz els)->f.get k=D (.dp t esz els):=λk t esz els e=>by
  rcases n k with h|h
  ·rw[<-h];exact e
  ·rw[h]at e;cases e
 have p:∀k,d.rw k->f.rw k:=λk h=>by
  rcases h with⟨a,b,h⟩|⟨a,h⟩|⟨a,b,c,h⟩
  ·exact .inl ⟨a,b,g _ _ _ _ h⟩
  ·exact .inr (.inl ⟨a,get_map _ _ h⟩)
  ·exact .inr (.inr ⟨a,b,c,i _ _ _ _ h⟩)
 have v:∀k,d.live k->f.live k:=λk h=>by
  rcases h with⟨a,b,c,h⟩|⟨a,h⟩|⟨a,b,c,h⟩
  ·exact .inl ⟨a,b,c,g _ _ _ _ h⟩
  ·exact .inr (.inl ⟨a,get_map _ _ h⟩)
  ·exact .inr (.inr ⟨a,b,c,i _ _ _ _ h⟩)
 refine⟨h.le,by rw[o];exact h.next,λl u=>h.hp l (by rw[<-o];exact u),⟨λl ro esz els e=>h.rel.row l ro esz els (g _ _ _ _ e),λl es e=>h.rel.map l es (get_map _ _ e),λl t esz els e=>h.rel.dp l t esz els (i _ _ _ _ e),λl x a b j m=>h.rel.apart l x a b (p _ j) (v _ m)⟩,h.os,h.tape,h.output,h.size,h.frame,?_,λk esz els e=>h.ro k esz els (g _ _ _ _ e)⟩;rintro b ⟨l,loc,j,m,s⟩;exact h.own b ⟨l,loc,p _ j,m,s⟩
def Pa{ot:Option TypeId}{l i n esz b:Nat}{els os:List (List aa)}(c:H.get l=D (eL ot b els))(h:iP H l i n esz=D os):b=esz/\i+n<=els.length/\os=(els.drop i).take n:=by
 unfold iP at h;cases ot with
 |none=>
  rw[c]at h;simp only[eL]at h;split at h
  ·rename_i a;exact⟨a.1,a.2,(Option.some.inj h).symm⟩
  ·cases h
 |some t=>
  rw[c]at h;simp only[eL]at h;split at h
  ·rename_i a;exact⟨a.1,a.2,(Option.some.inj h).symm⟩
  ·cases h
def Jk(s:Rel ρ H w)(G:ρ H.next=Y){ot:Option TypeId}{t A e:TypeId}(av:∀o,ot=D o->o=e)(ty:TypeId)(hu:P.underlying t=D (.slice e)){C:Nat}{z:aa}{l i n:Nat}{cap:Option Nat}{loc:Loc}{a os:List (List aa)}(aG:cap=Y)(aH:¬a.length=0)(b:cT P e=D loc.esz)(ai:mv P e=D C)(ay:gv P e=D z)
  (az:z.cells.length=loc.esz) (aw:0<loc.esz)
  (d1:∀e∈a,e.length=loc.esz) (d2:∀e∈a,∀v∈e,v.one=V) {news:List Value} (d3:bj ρ a.flatten news) {B:Value} (Q:Src P loc.esz A B a.length news w)
  (y:os.length=n) (aB:∀e∈os,e.length=loc.esz) (aC:∀e∈os,∀v∈e,v.one=V) {olds:List Value} (aD:bj ρ os.flatten olds) (f:Addr) (c:Nat)
  (hold:(Builtin.firstCells loc.esz n (.slice (D f) n c)).run P w.drew= .ok olds.toArray w.drew) (E:(n+a.length)*C<=140737488355328/\n+a.length<=9223372036854775807)
  (N:ρ l=D loc) (ah:0<c->f=⟨loc.block,loc.off+i*loc.esz,Y⟩/\loc.off+(i+c)*loc.esz<=loc.size) {T:Nat} {S:List (List aa)} (aq:∀o,ot=D o->i=0) (g:H.get l=D (eL ot T S)) (au:iP H l i n loc.esz=D os):
  ∃r p q,(Builtin.append_ #[t,A] ty #[.slice (D f) n c,B]).run P w= .ok r p/\bb q (.ag H.next 0 (n+a.length) loc.esz Y) r/\Step ρ H w q ((H.set l .dead).push (eL ot loc.esz (os++a))) p:=by
 obtain⟨aI,ar⟩:=Pa g au;obtain⟨aA,an,⟨aj,arr,t0,aE,F,K,aK⟩,-⟩:=zi s g;obtain rfl:loc=aA:=Option.some.inj (N.symm.trans an);subst aj;obtain⟨am,rfl⟩:=ar
 ·have y:=y;by_cases x:n+a.length<=c
  ·obtain⟨rfl,ak⟩:=ah bn;have aL:=K.1;have al:=K.2 rfl;have ax:=afN (n:=n) s G g N am d1 d2 d3 (by
    refine Nat.le_trans (Nat.add_le_add_left (Nat.mul_le_mul_right _ ?_) _) ak;omega) aq
   have aJ:news.length=a.length*loc.esz:=by rw[<-d3.length,k5 d1]
   have L:∀j,j<news.length->loc.off+i*loc.esz+n*loc.esz+j<arr.size:=by
    intro j m;have ae:(i+c)*loc.esz=i*loc.esz+c*loc.esz:=Nat.add_mul _ _ _;have aF:n*loc.esz+a.length*loc.esz<=c*loc.esz:=by rw[<-Nat.add_mul];exact Nat.mul_le_mul_right _ x
    omega
   cases u:P.info? e with
   |none=>unfold cT at b;rw[u]at b;cases b
   |some R=>
    have h:R.size=loc.esz:=by unfold cT at b;rw[u]at b;simpa using b
    have O:=run_append_room_src (P:=P) w t A ty e R hu u loc.block (loc.off+i*loc.esz) n c B a.length news (by rw[h];exact Q) x
     (λj m=>by rw[h];simp[World.cell?,F,L j m])
     (λj m=>by
      rw[h];have:=al _ (L j m);simp only[World.frozen?,F];simpa using this)
    rw[h]at O;refine⟨_,_,_,O,?_,by rw[show loc.off+i*loc.esz+n*loc.esz=loc.off+(i+n)*loc.esz by rw[Nat.add_mul];omega];exact ax⟩;refine bb.ag (ρ:=ρ.eC H.next _) H.next 0 (n+a.length) Y ⟨loc.block,loc.off+i*loc.esz,loc.esz,loc.size⟩ _ c (Env.fQ _ _ _) x (λk d=>by cases d) (λ_=>⟨by simp,?_⟩)
    have ae:(i+c)*loc.esz=i*loc.esz+c*loc.esz:=Nat.add_mul _ _ _;simp only[Nat.zero_add];omega
  ·
    obtain⟨r,p,q,W,ab,ad⟩:=DN s G (ot:=ot) av ty hu b ai ay az aw d1 d2 d3 Q aB aC aD (D f) n c y hold bn E.1 E.2;refine⟨r,p,q,W,ab,ad.dead (by simp) (λk=> ?_)⟩;have ap:=af.iT g;by_cases d:k=H.next
    ·subst d;left;rw[af.hv];exact af.hv (H.set l .dead) _
    ·by_cases M:k=l
     ·subst M;right;rw[af.fL (by simpa using d),af.iJ ap]
     ·left;rw[af.fL (by simpa using d),af.gm (Ne.symm M),af.fL d]
def It(z:Array Value):∀n,(Builtin.zeroCells z n).toList=(List.replicate n z.toList).flatten
 |0=>by simp[Builtin.zeroCells]
 |n+1=>by
  rw[List.replicate_succ,List.flatten_cons,<-It z n];apply List.ext_getElem?;intro i;simp only[Builtin.zeroCells,Array.toList_map,Array.toList_range,List.getElem?_map];by_cases a:i<(n+1)*z.size
  ·have c:0<z.size:=by
    rcases Nat.eq_zero_or_pos z.size with h|h
    ·rw[h]at a;simp at a
    ·exact h
   rw[List.getElem?_range a];by_cases b:i<z.size
   ·rw[List.getElem?_append_left (by simpa using b)];simp[Nat.mod_eq_of_lt b,b]
   ·rw[List.getElem?_append_right (by simp;omega)];rw[Nat.succ_mul]at a;simp only[Array.length_toList,List.getElem?_map];rw[List.getElem?_range bn];simp only[Option.map_some];rw[show i%z.size=(i-z.size)%z.size from Nat.mod_eq_sub_mod bn]
  ·rw[List.getElem?_eq_none (by simp;omega)];rw[List.getElem?_append_right (by simp;rw[Nat.succ_mul]at a;omega)];rw[List.getElem?_eq_none]
   ·rfl
   ·rw[Nat.succ_mul]at a;simp;omega
def af2(t a ty e:TypeId)(i:TypeInfo)(z:Value)(k:P.underlying t=D (.slice e))(j:P.info? e=D i)(m:i.zero=D z)(l:P.underlying a=D (.int .i64))(n:Nat)(u:0<n)(v:0<i.size)
  (r:n*i.bytes<=140737488355328) (q:n<=1125899906842624) (s:Builtin.nextslicecap n 0*i.bytes<=281474976710656):
  (Builtin.append_ #[t,a] ty #[.slice Y 0 0,.int .i64 n]).run P w=
   .ok (.slice (D ⟨w.heap.size,0,Y⟩) n (grownCap w n 0 e)) (w.drew.alloc (.cells (Builtin.zeroCells z.cells n++Builtin.zeroCells z.cells (grownCap w n 0 e-n)) e)):=by
 have hw:IntKind.i64.wrap (n:Int)=n:=IntWalk.i64_in n ⟨bn,bn⟩;have b:¬((n:Int)<0):=bn;have c:¬((n:Int)*(i.bytes:Int)>281474976710656):=by
  have:((n*i.bytes:Nat):Int)<=140737488355328:=bn;rw[Int.natCast_mul]at this;omega
 have o:¬(n<=0):=bn;have d:¬(9223372036854775807<(n:Int)):=bn;have f:¬(281474976710656<Builtin.nextslicecap n 0*i.bytes):=bn;have g:¬(n*i.size=0):=by
  intro h;rcases Nat.mul_eq_zero.1 h with h|h<;>omega
 have p:¬(n=0\/i.size=0):=bn;simp[Builtin.append_,run_underlying k,run_underlying l,sizeOf,typeInfo,zeroValue,j,m,b,c,d,f,hw,asInt,asIntOf,Question.forced,newRow,grownCap,Builtin.firstCells];rw[if_neg bn,if_neg g]
def OC{ρ:Env}{cs:List aa}{xs:List Value}(h:bj ρ cs xs):∀n,bj ρ (List.replicate n cs).flatten (List.replicate n xs).flatten
 |0=> .nil
 |n+1=>by rw[List.replicate_succ,List.replicate_succ,List.flatten_cons,List.flatten_cons];exact h.append (OC h n)
def Pm(F:Rel ρ H w){t j e:TypeId}{s x a:aa}{u A:Value}{H':af}(ty:TypeId)(hu:P.underlying t=D (.slice e))(ad:P.underlying j=D (.int .i64))(h:Df P H e s x=D (a,H'))(L:H.next<H'.next->ρ H.next=Y)(W:bb ρ s u)(ab:bb ρ x A):
  ∃r y B,(Builtin.append_ #[t,j] ty #[u,A]).run P w= .ok r y/\bb B a r/\Step ρ H w B H' y:=by
 unfold Df at h;split at h
 ·rename_i n;cases W;cases ab;split at h
  ·rename_i esz aj z f d g;split at h
   ·rename_i G;obtain⟨Q,q,S,R,l,E⟩:=G;simp only[a7,bI]at h;obtain⟨rfl,rfl⟩:=h;have K:=L (by simp);unfold gv at g;unfold cT at f;unfold mv at d;simp only[dG]at g;obtain⟨i,m,c,ah,ai⟩:=g;rw[m]at f d;simp only[Option.map_some,a7]at f d;subst f;subst d;have p:=(zl ai ρ).cells;have ae:c.cells.size=i.size:=by have:=p.length;rw[q]at this;simpa using this.symm
    have M:=growslice_fits (need:=n) (old:=0) (bytes:=i.bytes) bn l;have T:=af2 (P:=P) (w:=w) t j ty e i c hu m ah ad n Q S l E (by simpa using M);have b:=q4 (w:=w.drew) F.drew K (ot:=none) (esz:=i.size) (els:=List.replicate n z.cells) (λe he=>by rw[List.eq_of_mem_replicate he];exact q) (λe he v o=>by rw[List.eq_of_mem_replicate he]at o;exact List.all_eq_true.1 R v o)
     (xs:=(Builtin.zeroCells c.cells n).toList) (tail:=(Builtin.zeroCells c.cells (grownCap w n 0 e-n)).toList) (by rw[It];exact OC p n) e (λ_ h=>by cases h)
    have C:((Builtin.zeroCells c.cells n).toList++(Builtin.zeroCells c.cells (grownCap w n 0 e-n)).toList).toArray=Builtin.zeroCells c.cells n++Builtin.zeroCells c.cells (grownCap w n 0 e-n):=by
     apply Array.ext';simp
    rw[C]at b;refine⟨_,_,_,T,?_,⟨b.le,b.next,b.hp,b.rel,b.os,b.tape,b.output,b.size,b.frame,b.own,b.ro⟩⟩;have N:n<=grownCap w n 0 e:=grownCap_ge w n 0 e;refine bb.ag (ρ:=ρ.eC H.next _) H.next 0 n Y _ _ (grownCap w n 0 e) (Env.fQ _ _ _) N (λk O=>by cases O) (λ_=>⟨by show(⟨w.heap.size,0,Y⟩:Addr)=⟨w.heap.size,0+0*i.size,Y⟩;simp,?_⟩)
    simp only[Nat.zero_add,Array.length_toList,size_zeroCells,ae];rw[<-Nat.add_mul];exact Nat.mul_le_mul_right _ bn
   ·cases h
  ·cases h
 ·cases h
def OY(d:Rel ρ H w){ts:List TypeId}{s x a:aa}{am y:Value}{H':af}(ty:TypeId)(h:bx P H ts s x=D (a,H'))(p:H.next<H'.next->ρ H.next=Y)(E:bb ρ s am)(al:bb ρ x y):
  ∃r an ap,(Builtin.append_ ts.toArray ty #[am,y]).run P w= .ok r an/\bb ap a r/\Step ρ H w ap H' an:=by
 unfold bx at h;split at h
 ·rename_i t ae;split at h
  ·rename_i e hu;split at h
   ·rename_i au;exact Pm d ty hu (R2 au) h p E al
   split at h
   ·rename_i esz aB z m A F;split at h
    ·rename_i K ax;obtain⟨d1,d2,news,d3,v⟩:=Pv (P:=P) d ax al;split at h
     ·rename_i az;obtain⟨G,C⟩:=az;have aj:K.length=0->Src P esz ae y 0 [] w:=λb=>by
       have:K=[]:=List.eq_nil_of_length_eq_zero b;subst this;have:news=[]:=by cases d3;rfl
       subst this;simpa using v
      split at h
      ·cases E;split at h
       ·rename_i b;simp only[a7,bI]at h;obtain⟨rfl,rfl⟩:=h;exact⟨_,_,_,N6 w t ae ty e hu m Y 0 0 (cW _) y (aj b),.ao,Step.refl d⟩
       ·rename_i b;split at h
        ·rename_i g;simp only[a7,bI]at h;obtain⟨rfl,rfl⟩:=h;have N:=p (by simp);have:=DN d N (Px (x:=x)) ty hu m A F G C d1 d2 d3 v (os:=[]) (by simp) (by simp) (olds:=[]) (by simpa using bj.nil) Y 0 0 rfl
          (run_firstCells_none w.drew esz 0 0 0) bn (by simpa using g.1) (by simpa using g.2)
         simpa using this
        ·cases h
      ·rename_i l i n aC cap;split at h
       ·rename_i he;split at h
        ·rename_i b;simp only[a7,bI]at h;obtain⟨rfl,rfl⟩:=h;cases E with|ag _ _ _ _ loc f c q Q L o=>
         exact⟨_,_,_,N6 w t ae ty e hu m (D f) n c Q y (aj b),.ag l i n cap loc f c q Q L o,Step.refl d⟩
        ·rename_i b;split at h
         ·rename_i g;split at h
          ·rename_i os R;cases E with|ag _ _ _ _ loc f c q Q L o=>
           subst he;obtain⟨S,T,W,olds,ab,ad,aA,aD⟩:=C_ d R q;have hold:(Builtin.firstCells loc.esz n (.slice (D f) n c)).run P w.drew= .ok olds.toArray w.drew:=by
            refine run_firstCells_some w.drew loc.esz n f n c olds ad (λj u ai=> ?_);have aw:0<c:=by
             rcases Nat.eq_zero_or_pos c with b|b
             ·have ay:n=0:=bn;rw[ay]at ad;have:olds=[]:=List.eq_nil_of_length_eq_zero (by simpa using ad);subst this;simp at ai
             ·exact b
            obtain⟨rfl,_⟩:=o aw;rw[ke];exact aA j u ai
           split at h
           ·rename_i B;simp only[a7,bI]at h;obtain⟨rfl,rfl⟩:=h;have N:=p (by simp);have av:c<n+K.length:=by
             cases M:cap with
             |none=>rw[M]at B;simp at B
             |some k=>rw[M]at B;simp at B;have:=L k M;omega
            exact DN d N (ot:=none) (λ_ h=>by cases h) ty hu m A F G C d1 d2 d3 v T W ab (D f) n c S hold av g.1 g.2
           ·split at h
            ·rename_i ah;split at h
             ·rename_i aq ar O;simp only[a7,bI]at h;obtain⟨rfl,rfl⟩:=h;exact Jk d (p (by simp)) (ot:=none) (λ_ h=>by cases h) ty hu ah b m A F G C d1 d2 d3 v S T W ab f c hold g q o (λ_ h=>by cases h) O R
             ·rename_i t0 aq ar O;split at h
              ·rename_i ak;simp only[a7,bI]at h;obtain⟨rfl,rfl⟩:=h;exact Jk d (p (by simp)) (ot:=some t0) (λ_ h=>by rw[<-Option.some.inj h];exact ak.1) ty hu ah b m A F G C d1 d2 d3 v S T W ab f c hold g q o (λ_ _=>ak.2) O R
              ·cases h
             ·cases h
            ·cases h
          ·cases h
         ·cases h
       ·cases h
      ·cases h
     ·cases h
    ·cases h
   ·cases h
  ·cases h
 ·cases h
end
section
variable {P:Program}{ρ:Env}{H:af}{w:World}
def Db(P:Program)(H:af)(t:TypeId)(x:aa):Option aa:=
 match P.underlying t,x with
 |some .string,.str s=>D (.int .i64 s.length)
 |some (.slice _),.ag _ _ n _ _=>D (.int .i64 n)
 |some (.slice _),.ao=>D (.int .i64 0)
 |some (.array n _),_=>D (.int .i64 n)
 |some (.map _ _),.h1=>D (.int .i64 0)
 |some (.map _ _),.map l=>(match H.get l with|some (.map es)=>D (.int .i64 es.length)|_=>Y)
 |_,_=>Y
def qf{l:Nat}{es:List (aa×aa)}(d:Rel ρ H w)(e:H.get l=D (.map es)){loc:Loc}(f:ρ l=D loc):
  ∃ents clock,w.heap[loc.block]? =D (.map ents clock)/\(getObj loc.block).run P w= .ok (.map ents clock) w/\bj ρ (es.map (·.1)) (ents.toList.map (·.key))/\bj ρ (es.map (·.2)) (ents.toList.map (·.val)):=by
 obtain⟨h,g,ents,clock,a,b,c⟩:=d.map _ _ e;obtain rfl:loc=h:=Option.some.inj (f.symm.trans g);exact⟨ents,clock,a,by simp[getObj,Sem.run,a],b,c⟩
def Pj(d:Rel ρ H w){t:TypeId}{x v:aa}{b:Value}(ty:TypeId)(h:Db P H t x=D v)(a:bb ρ x b):∃r,(Builtin.len_ #[t] ty #[b]).run P w= .ok r w/\bb ρ v r:=by
 unfold Db at h;split at h
 ·rename_i s hu;cases a;simp only[a7]at h;subst h;have j:(⟨s.toArray⟩:ByteArray).size=s.length:=by show s.toArray.size=_;simp
  exact⟨_,by simp[Builtin.len_,run_underlying hu,goInt,j],.int _ _⟩
 ·rename_i hu;cases a;simp only[a7]at h;subst h;exact⟨_,by simp[Builtin.len_,run_underlying hu,goInt],.int _ _⟩
 ·rename_i hu;cases a;simp only[a7]at h;subst h;exact⟨_,by simp[Builtin.len_,run_underlying hu,goInt],.int _ _⟩
 ·rename_i n e hu;simp only[a7]at h;subst h;exact⟨_,by simp[Builtin.len_,run_underlying hu,goInt],.int _ _⟩
 ·rename_i hu;cases a;simp only[a7]at h;subst h;exact⟨_,by simp[Builtin.len_,run_underlying hu,goInt],.int _ _⟩
 ·rename_i hu;cases a with|map _ loc i=>
  split at h
  ·rename_i es f;simp only[a7]at h;subst h;obtain⟨ents,clock,l,g,c,k⟩:=qf (P:=P) d f i;have hlen:=c.length;simp only[List.length_map,Array.length_toList]at hlen;exact⟨_,by simp[Builtin.len_,run_underlying hu,goInt,g,<-hlen],.int _ _⟩
  ·cases h
 ·cases h
def Dg(x y:aa):Option aa:=
 match x,y with
 | .int k a,.int _ b=>D (.int k (if a<b then b else a))
 |_,_=>Y
def Dh(x y:aa):Option aa:=
 match x,y with
 | .int k a,.int _ b=>D (.int k (if b<a then b else a))
 |_,_=>Y
def Po{x y v:aa}{a b:Value}(ts:Array TypeId)(ty:TypeId)(h:Dg x y=D v)(c:bb ρ x a)(d:bb ρ y b)(w:World):∃r,(Builtin.max_ ts ty #[a,b]).run P w= .ok r w/\bb ρ v r:=by
 unfold Dg at h;split at h
 ·cases c;cases d;simp only[a7]at h;subst h;exact⟨_,by simp[Builtin.max_,Builtin.max2],.int _ _⟩
 ·cases h
def Pq{x y v:aa}{a b:Value}(ts:Array TypeId)(ty:TypeId)(h:Dh x y=D v)(c:bb ρ x a)(d:bb ρ y b)(w:World):∃r,(Builtin.min_ ts ty #[a,b]).run P w= .ok r w/\bb ρ v r:=by
 unfold Dh at h;split at h
 ·cases c;cases d;simp only[a7]at h;subst h;exact⟨_,by simp[Builtin.min_,Builtin.min2],.int _ _⟩
 ·cases h
def bJ(x:aa)(i:Nat):Option aa:=
 match x with
 | .tuple a=>a[i]?
 |_=>Y
def Pc{x v:aa}{a:Value}{i:Nat}(h:bJ x i=D v)(e:bb ρ x a)(w:World):∃r,(Instr.extract a i).run P w= .ok r w/\bb ρ v r:=by
 unfold bJ at h;split at h
 ·cases e with|tuple _ xs c=>
  obtain⟨r,b,d⟩:=c.get _ _ h;exact⟨r,by simp[Instr.extract,b],d⟩
 ·cases h
def p4(P:Program)(src dst:TypeId)(x:aa):Option aa:=
 match P.underlying src,P.underlying dst,x with
 |some _,D (.int k),.int _ n=>D (.int k (k.wrap n))
 |some _,D .string,.str s=>D (.str s)
 |_,_,_=>Y
def O7{src dst:TypeId}{x v:aa}{d:Value}(h:p4 P src dst x=D v)(c:bb ρ x d)(w:World):∃r,(convert src dst d).run P w= .ok r w/\bb ρ v r:=by
 unfold p4 at h;split at h
 ·rename_i b a;cases c;simp only[a7]at h;subst h;exact⟨_,by simp[convert,run_underlying b,run_underlying a,Conv.intToInt],.int _ _⟩
 ·rename_i b a;cases c;simp only[a7]at h;subst h;exact⟨_,by simp[convert,run_underlying b,run_underlying a],.str _⟩
 ·cases h
def byteOf:List aa->Option UInt8
 |[.int .u8 n]=>D (UInt8.ofNat n.toNat)
 |_=>Y
def bytesOf:List (List aa)->Option (List UInt8)
 |[]=>D []
 |e::r=>match byteOf e,bytesOf r with
  |some b,D l=>D (b::l)
  |_,_=>Y
def p3(P:Program)(H:af)(src dst:TypeId)(x:aa):Option aa:=
 match P.underlying src,P.underlying dst,x with
 |some (.slice e),D .string,.ag l i n esz _=>
  (match P.underlying e,iP H l i n esz with
  |some (.int .u8),D a=>if esz=1 then(bytesOf a).map .str else Y
  |_,_=>Y)
 |some (.slice e),D .string,.ao=>(match P.underlying e with|some (.int .u8)=>D (.str [])|_=>Y)
 |_,_,_=>Y
def IW(f:Value->ByteArray->Sem (ForInStep ByteArray))(i:∀n s,f (.int .u8 n) s=pure (ForInStep.yield (s.push (UInt8.ofNat n.toNat)))):∀(e:List (List aa)) (c:List UInt8),bytesOf e=D c->∀(xs:List Value),bj ρ e.flatten xs->∀(acc:ByteArray),
  (forIn xs acc f).run P w= .ok (acc++⟨c.toArray⟩) w
 |[],c,h,xs,g,acc=>by
  simp[bytesOf]at h;subst h;cases g;have:acc++(⟨#[]⟩:ByteArray)=acc:=by apply ByteArray.ext;simp
  simp[Sem.run_pure,this]
 |d::e,c,h,xs,g,acc=>by
  unfold bytesOf at h;split at h
  ·rename_i b l a j;simp only[a7]at h;subst h;unfold byteOf at a;split at a
   ·rename_i n;simp only[a7]at a;subst a;cases g with|cons _ x _ p k m=>
    cases k;have o:=IW f i e l j p m (acc.push (UInt8.ofNat n.toNat));rw[List.forIn_cons];simp only[Sem.run_bind,i,Sem.run_pure,Result.andThen_ok];rw[o]
    congr 1
    apply ByteArray.ext;simp
   ·cases a
  ·cases h
def O3(t:Rel ρ H w){src dst:TypeId}{x v:aa}{p:Value}(h:p3 P H src dst x=D v)(m:bb ρ x p):∃r,(convert src dst p).run P w= .ok r w/\bb ρ v r:=by
 unfold p3 at h;split at h
 ·rename_i e l i n esz cap f d;split at h
  ·rename_i q he B;split at h
   ·rename_i s;simp only[Option.map_eq_some_iff]at h;obtain⟨b,z,rfl⟩:=h;cases m with|ag _ _ _ _ loc a c E M L y=>
    obtain⟨O,Q,R,xs,G,o,K,S⟩:=C_ t B E;refine⟨.string ⟨b.toArray⟩,?_,.str _⟩;have F:(loadCells a n).run P w= .ok xs.toArray w:=by
     rw[s,Nat.mul_one]at o;rw[<-o];refine run_loadCells_list w a xs (λj u k=> ?_);have A:0<c:=by
      rcases Nat.eq_zero_or_pos c with g|g
      ·have N:n=0:=bn;have:xs=[]:=List.eq_nil_of_length_eq_zero bn;subst this;simp at k
      ·exact g
     obtain⟨rfl,_⟩:=y A;rw[ke];exact K j u k
    have C:ByteArray.empty++(⟨b.toArray⟩:ByteArray)=⟨b.toArray⟩:=by apply ByteArray.ext;simp
    simp only[convert,Sem.run_bind,run_underlying f,run_underlying d,run_underlying he,Result.andThen_ok,Conv.bytesToString,F];rw[<-Array.forIn_toList];show((Sem.run P (forIn xs ByteArray.empty _) w).andThen _)=_;rw[IW (P:=P) (w:=w) _ (λ_ _=>rfl) q b z xs G ByteArray.empty,C];rfl
   ·cases h
  ·cases h
 ·rename_i e f d;cases m;split at h
  ·rename_i he;simp only[a7]at h;subst h;exact⟨.string ⟨#[]⟩,by simp[convert,run_underlying f,run_underlying d,run_underlying he,Conv.bytesToString];rfl,.str []⟩
  ·cases h
 ·cases h
def gu(P:Program)(H:af)(t:TypeId)(l c:aa):Option (aa×af):=
 match P.underlying t,l,c with
 |some (.slice e),.int d n,.int f m=>
  (match cT P e,mv P e,gv P e with
  |some a,D b,D z=>
   if d= .i64/\f= .i64/\0<=n/\n<=m/\m<=9223372036854775807/\(b:Int)*m<=281474976710656/\z.cells.length=a/\0<a/\z.cells.all aa.one=V then
    D (.ag H.next 0 n.toNat a (D m.toNat),H.push (.row U a (List.replicate m.toNat z.cells)))
   else Y
  |_,_,_=>Y)
 |_,_,_=>Y
def wrap_i64{n:Int}(a:0<=n)(b:n<=9223372036854775807):IntKind.i64.wrap n=n:=IntWalk.i64_in n ⟨bn,bn⟩
def Pn(G:Rel ρ H w)(M:ρ H.next=Y){t:TypeId}{l c a:aa}{B p:Value}{H':af}(h:gu P H t l c=D (a,H'))(O:bb ρ l B)(K:bb ρ c p):
  ∃r C E,(Instr.makeSlice t B p).run P w= .ok r C/\bb E a r/\Step ρ H w E H' C:=by
 unfold gu at h;split at h
 ·rename_i e an n ap m hu;cases O;cases K;split at h
  ·rename_i d o z b g ae;split at h
   ·rename_i L;obtain⟨rfl,rfl,q,s,v,aj,y,am,R⟩:=L;simp only[a7,bI]at h;obtain⟨rfl,rfl⟩:=h;obtain⟨k,ai,ah⟩:=k2 ae w;have S:∀u∈z.cells,u.one=true:=by simpa using R
    have x:=(ah ρ).cells;have j:k.cells.size=d:=by have:=x.length;rw[<-y,this];simp
    have T:=bj.DH x m.toNat;have W:=q4 G M (ot:=none) (esz:=d) (els:=List.replicate m.toNat z.cells) (λe he=>by rw[List.eq_of_mem_replicate he];exact y)
     (λe he=>by rw[List.eq_of_mem_replicate he];exact S) T (tail:=[]) e (λ_ h=>by cases h)
    cases f:P.info? e with
    |none=>unfold cT at b;rw[f]at b;cases b
    |some A=>
     have ak:A.size=d:=by unfold cT at b;rw[f]at b;simpa using b
     have N:A.bytes=o:=by unfold mv at g;rw[f]at g;simpa using g
     have hlen:(List.replicate m.toNat k.cells.toList).flatten.length=m.toNat*d:=by simp[j]
     refine⟨.slice (D ⟨w.heap.size,0,Y⟩) n.toNat m.toNat,_,_,?_,?_,W⟩
     ·have ab:=wrap_i64 q (Int.le_trans s v);have ad:=wrap_i64 (Int.le_trans q s) v;have al:¬(m<0\/281474976710656<(o:Int)*m):=bn;have hzero:=OJ k.cells m.toNat bn;rw[j]at hzero;simp only[Instr.makeSlice,Sem.run_bind,run_underlying hu,Result.andThen_ok,asInt,asIntOf,Sem.run_pure,typeInfo,f,N,ab,ad,run_program];rw[if_neg (by simp;omega)];simp only[Sem.run_bind,run_askRoom,Result.andThen_ok,run_sizeOf b];by_cases i:m.toNat*d=0
      ·simp only[i,if_true];have Q:m.toNat=0:=by rcases Nat.mul_eq_zero.1 i with h|h<;>omega
       have F:Array.range 0= #[]:=rfl;simp[newRow,F,Q]
      ·simp only[i,if_false,Sem.run_bind,ai,Result.andThen_ok,Sem.run_pure,j,hzero];simp[newRow]
     ·refine bb.ag (ρ:=ρ.eC H.next _) H.next 0 n.toNat (D m.toNat) ⟨w.heap.size,0,d,_⟩ _ m.toNat (Env.fQ _ _ _) bn (by simp) (λ_=>⟨by simp,?_⟩)
      simp only[Nat.zero_add,hlen];simp
   ·cases h
  ·cases h
 ·cases h
def C9(P:Program)(t:TypeId)(x:aa):Option aa:=
 match P.underlying t,x with
 |some (.slice _),.ag _ _ _ _ (D k)=>D (.int .i64 k)
 |some (.slice _),.ao=>D (.int .i64 0)
 |_,_=>Y
def O5{t:TypeId}{x v:aa}{d:Value}(ty:TypeId)(h:C9 P t x=D v)(b:bb ρ x d)(w:World):∃r,(Builtin.cap_ #[t] ty #[d]).run P w= .ok r w/\bb ρ v r:=by
 unfold C9 at h;split at h
 ·rename_i e l i n esz k hu;cases b with|ag _ _ _ _ loc a c j m f g=>
  obtain rfl:=f k rfl;simp only[a7]at h;subst h;exact⟨_,by simp[Builtin.cap_,run_underlying hu,goInt],.int _ _⟩
 ·rename_i e hu;cases b;simp only[a7]at h;subst h;exact⟨_,by simp[Builtin.cap_,run_underlying hu,goInt],.int _ _⟩
 ·cases h
def Oa(b:Nat):∀(xs a:List Value) (aA:Nat) (w:World),w.setCells b aA (xs++a)=(w.setCells b aA xs).setCells b (aA+xs.length) a
 |[],a,aA,w=>by simp[World.setCells]
 |x::xs,a,aA,w=>by
  simp only[List.cons_append,World.setCells];rw[Oa b xs a,List.length_cons,show aA+1+xs.length=aA+(xs.length+1) by omega]
def mD(H:af)(l:Nat)(cs:List aa):Nat->Nat->Option af
 |_,0=>D H
 |i,k+1=>match H.get l with
  |some (.row U esz els)=>(match els[i]? with
   |some e=>if cs.length=esz then(mD (H.set l (.row U esz (els.set i (fD e 0 cs)))) l cs (i+1) k)else Y
   |none=>Y)
  |_=>Y
def I1{l:Nat}{loc:Loc}{cs:List aa}{xs:List Value}(b:bj ρ cs xs)(d:∀v∈cs,v.one=V)(f:ρ l=D loc)(hlen:cs.length=loc.esz):
  ∀(k i:Nat) (H H':af) (w:World),Rel ρ H w->mD H l cs i k=D H'->Step ρ H w ρ H' (w.setCells loc.block (loc.off+i*loc.esz) (List.replicate k xs).flatten)
 |0,i,H,H',w,a,h=>by
  simp only[mD,a7]at h;subst h;simpa [World.setCells]using Step.refl a
 |k+1,i,H,H',w,a,h=>by
  unfold mD at h;split at h
  ·rename_i esz els g;split at h
   ·rename_i e he;split at h
    ·rename_i j;have s1:=OI a (ot:=none) g f he (c:=0) (cs:=cs) bn d b;have s2:=I1 b d f hlen k (i+1) _ H' _ s1.rel h;have pn:=s1.trans s2;rw[List.replicate_succ,List.flatten_cons,Oa,<-b.length,hlen,show loc.off+i*loc.esz+loc.esz=loc.off+(i+1)*loc.esz by rw[Nat.succ_mul];omega];exact pn
    ·cases h
   ·cases h
  ·cases h
def P0{l:Nat}{cs:List aa}:∀{k i:Nat} {H H':af},0<k->mD H l cs i k=D H'->∃esz els,H.get l=D (.row U esz els)/\cs.length=esz
 |0,_,_,_,h,_=>bn
 |k+1,i,H,H',_,h=>by
  unfold mD at h;split at h
  ·rename_i esz els b;split at h
   ·split at h
    ·rename_i a;exact⟨esz,els,b,a⟩
    ·cases h
   ·cases h
  ·cases h
def nA(P:Program)(H:af)(ts:List TypeId)(x:aa):Option af:=
 match ts with
 |[t]=>(match P.underlying t with
  |some (.slice e)=>(match x with
   | .ao=>D H
   | .ag l i n _ _=>if n=0 then D H else(match gv P e with
    |some z=>if z.cells.all aa.one=V then mD H l z.cells i n else Y
    |none=>Y)
   |_=>Y)
  |_=>Y)
 |_=>Y
def O6(d:Rel ρ H w){ts:List TypeId}{x:aa}{G:Value}{H':af}(ty:TypeId)(h:nA P H ts x=D H')(E:bb ρ x G):
  ∃F,(Builtin.clear_ ts.toArray ty #[G]).run P w= .ok (.tuple #[]) F/\Step ρ H w ρ H' F:=by
 unfold nA at h;split at h
 ·rename_i t;split at h
  ·rename_i e hu;split at h
   ·cases E;simp only[a7]at h;subst h;exact⟨w,by simp[Builtin.clear_,run_underlying hu],Step.refl d⟩
   ·rename_i l i n esz cap;cases E with|ag _ _ _ _ loc a c s T au K=>
    split at h
    ·rename_i g;subst g;simp only[a7]at h;subst h;exact⟨w,by simp[Builtin.clear_,run_underlying hu],Step.refl d⟩
    ·rename_i g;split at h
     ·rename_i z ak;split at h
      ·rename_i W;have A:∀v∈z.cells,v.one=true:=List.all_eq_true.1 W;obtain⟨y,ah,aj⟩:=k2 ak w;have f:=(aj ρ).cells;obtain⟨an,els,Q,L⟩:=P0 bn h;obtain⟨al,R,N,arr,t0,ap,o,p,aw⟩:=d.row _ _ _ _ Q;obtain rfl:loc=al:=Option.some.inj (s.symm.trans R);have ax:=p.1;have O:=p.2 rfl;have hlen:z.cells.length=loc.esz:=by rw[L,N]
       have M:0<c:=bn;obtain⟨rfl,av⟩:=K M;have C:=I1 f A s hlen n i H H' w d h;have ai:y.cells.toList.length=loc.esz:=by rw[<-f.length];exact hlen
       have k:((List.replicate n y.cells.toList).flatten).length=n*loc.esz:=by simp[ai]<;>rfl
       have q:∀j,j<n*loc.esz->loc.off+i*loc.esz+j<arr.size:=by
        intro j b;have aq:(i+c)*loc.esz=i*loc.esz+c*loc.esz:=Nat.add_mul _ _ _;have ar:n*loc.esz<=c*loc.esz:=Nat.mul_le_mul_right _ T;omega
       have B:=run_storeCells_cells (P:=P) loc.block (loc.off+i*loc.esz) (List.replicate n y.cells.toList).flatten 0 w
        (λj b=>by rw[k]at b;simp[World.cell?,o,q j b])
        (λj b=>by
         rw[k]at b;have:=O _ (q j b);simp only[World.frozen?,o,Nat.add_zero];simpa using this)
        (λu hu=>by
         obtain⟨ay,S,ad⟩:=List.mem_flatten.1 hu;obtain rfl:=List.eq_of_mem_replicate S;obtain⟨j,b⟩:=List.getElem?_of_mem ad;have r:j<z.cells.length:=by
          rcases Nat.lt_or_ge j y.cells.toList.length with h|h
          ·omega
          ·rw[List.getElem?_eq_none h]at b;cases b
         obtain⟨am,ab,ae⟩:=f.get j _ (List.getElem?_eq_getElem r);obtain rfl:u=am:=Option.some.inj (b.symm.trans ab);exact ae.E_ (A _ (List.getElem_mem r)))
       rw[<-It]at B C;refine⟨_,?_,C⟩;cases n with
       |zero=>omega
       |succ m=>
        simp only[Builtin.clear_];simp[run_underlying hu,ah];rw[B];simp
      ·cases h
     ·cases h
   ·cases h
  ·cases h
 ·cases h
end
section
variable {P:Program}{ρ:Env}{H:af}{w:World}
def oB(d:TypeDesc)(a b:aa):Option Bool:=
 match d,a,b with
 | .int _,.int k x,.int c y=>if k=c then D (x==y)else Y
 | .string,.str x,.str y=>D (x==y)
 | .bool,.bool x,.bool y=>D (x==y)
 |_,_,_=>Y
def nC(d:TypeDesc)(k:aa):List (aa×aa)->Nat->Option (Option (Nat×aa))
 |[],_=>D Y
 |e::es,i=>match oB d k e.1 with
  |some V=>D (D (i,e.2))
  |some U=>nC d k es (i+1)
  |none=>Y
def M_{d:TypeDesc}{a b:aa}{dD eG:Value}{r:Bool}(h:oB d a b=D r)(c:bb ρ a dD)(e:bb ρ b eG):Instr.sameNow d dD eG=D r:=by
 unfold oB at h;split at h
 ·cases c;cases e;split at h
  ·rename_i f;subst f;simpa [Instr.sameNow]using h
  ·cases h
 ·cases c;cases e;simp only[a7]at h;subst h;simp[Instr.sameNow,Ik]
 ·cases c;cases e;simpa [Instr.sameNow]using h
 ·cases h
inductive pY(ρ:Env):Option (Nat×aa)->Option (Nat×Value)->Prop where
 |none:pY ρ none none
 |some (i:Nat) (v:aa) (x:Value) (h:bb ρ v x):pY ρ (some (i,v)) (some (i,x))
def p7{d:TypeDesc}{k:aa}{n:Value}(g:bb ρ k n):∀(es:List (aa×aa)) (ents:List MapEntry) (i:Nat) (r:Option (Nat×aa)),nC d k es i=D r->
  bj ρ (es.map (·.1)) (ents.map (·.key))->bj ρ (es.map (·.2)) (ents.map (·.val))->∃cS,Instr.findNow d n ents i=D cS/\pY ρ r cS/\∀j v,r=D (j,v)->i<=j/\j<i+es.length/\∃e,es[j-i]? =D e/\oB d k e.1=D V
 |[],ents,i,r,h,a,b=>by
  simp[nC]at h;subst h;have:ents=[]:=by
   have:=a.length;simp at this;exact List.eq_nil_of_length_eq_zero this.symm
  subst this;exact⟨Y,rfl,.none,λj v h=>by cases h⟩
 |e::es,[],i,r,h,a,b=>by have:=a.length;simp at this
 |e::es,m::ents,i,r,h,a,b=>by
  simp only[List.map_cons]at a b;cases a with|cons _ _ _ _ l p=>
  cases b with|cons _ _ _ _ o q=>
  unfold nC at h;unfold Instr.findNow;split at h
  ·rename_i f;simp only[a7]at h;subst h;rw[M_ f g l];exact⟨_,rfl,.some i _ _ o,λj v c=>by
    simp only[a7,bI]at c;obtain⟨rfl,_⟩:=c;exact⟨cW _,by simp,e,by simp,f⟩⟩
  ·rename_i f;rw[M_ f g l];obtain⟨cS,t,u,w⟩:=p7 g es ents (i+1) r h p q;refine⟨cS,t,u,λj v c=> ?_⟩;obtain⟨z,A,s,x,y⟩:=w j v c;refine⟨bn,by simp;omega,s,?_,y⟩;rw[show j-i=(j-(i+1))+1 by omega];simpa using x
  ·cases h
def plainKey(d:TypeDesc):Bool:=
 match d with
 | .int _| .string| .bool=>V
 |_=>U
def xD{t:TypeId}{d:TypeDesc}(hu:P.underlying t=D d)(a:plainKey d=V)(empty:Bool)(v:Value)(n:Nat)(w:World):(Instr.checkKey empty (n+1) t v).run P w= .ok () w:=by
 unfold Instr.checkKey;simp only[Sem.run_bind,run_underlying hu,Result.andThen_ok];cases d<;>simp[plainKey]at a<;>rfl
def oL(P:Program)(d:TypeDesc)(k:aa):Bool:=
 match d,k with
 | .array 2 e,.agg cs=>(match P.underlying e with|some (.int _)=>V|_=>U)&&(match cT P e with|some n=>(apart P e cs (0*n)).isSome&&(apart P e cs (1*n)).isSome|none=>U)
 |_,_=>U
def Dx{t:TypeId}{d:TypeDesc}{k:aa}{g:Value}(hu:P.underlying t=D d)(b:oL P d k=V)(p:bb ρ k g)(empty:Bool)(n:Nat)(w:World):(Instr.checkKey empty (n+2) t g).run P w= .ok () w:=by
 unfold oL at b;split at b
 ·rename_i e cs;simp only[Bool.and_eq_true]at b;obtain⟨c,a⟩:=b;split at c
  ·rename_i r he;split at a
   ·rename_i m hm;simp only[Bool.and_eq_true]at a;obtain⟨a0,j⟩:=Option.isSome_iff_exists.1 a.1;obtain⟨q,l⟩:=Option.isSome_iff_exists.1 a.2;cases p with|agg _ xs f=>
    obtain⟨s,h,_⟩:=k0 j f w;obtain⟨u,i,_⟩:=k0 l f w;have o:∀v:Value,(Instr.checkKey empty (n+1) e v).run P w= .ok () w:=λv=>xD he rfl empty v n w
    unfold Instr.checkKey;simp only[Sem.run_bind,run_underlying hu,Result.andThen_ok];rw[Std.Legacy.Range.forIn_eq_forIn_range'];simp only[Nat.zero_mul,Nat.one_mul]at h i;simp[List.range',run_sizeOf hm,h,i,o]
   ·cases a
  ·cases c
 ·cases b
def my(P:Program)(a:TypeId)(k:aa):List (aa×aa)->Nat->Option (Option (Nat×aa))
 |[],_=>D Y
 |e::es,i=>match jE P 10000 a k e.1 with
  |some V=>D (D (i,e.2))
  |some U=>my P a k es (i+1)
  |none=>Y
def ID{d:TypeId}{k:aa}{c:Value}(f:bb ρ k c)(w:World):∀(es:List (aa×aa)) (ents:List MapEntry) (i:Nat) (r:Option (Nat×aa)),my P d k es i=D r->
  bj ρ (es.map (·.1)) (ents.map (·.key))->bj ρ (es.map (·.2)) (ents.map (·.val))->∃cS,(Instr.findAsking d c ents i).run P w= .ok cS w/\pY ρ r cS
 |[],ents,i,r,h,a,b=>by
  simp[my]at h;subst h;have:ents=[]:=by
   have:=a.length;simp at this;exact List.eq_nil_of_length_eq_zero this.symm
  subst this;exact⟨Y,rfl,.none⟩
 |e::es,[],i,r,h,a,b=>by have:=a.length;simp at this
 |e::es,m::ents,i,r,h,a,b=>by
  simp only[List.map_cons]at a b;cases a with|cons _ _ _ _ j n=>
  cases b with|cons _ _ _ _ l o=>
  unfold my at h;unfold Instr.findAsking;split at h
  ·rename_i g;simp only[a7]at h;subst h;have he:(Op.equal d c m.key).run P w= .ok V w:=qb (ρ:=ρ) w _ _ _ _ _ _ _ g f j;exact⟨_,by simp[he],.some i _ _ l⟩
  ·rename_i g;have he:(Op.equal d c m.key).run P w= .ok U w:=qb (ρ:=ρ) w _ _ _ _ _ _ _ g f j;obtain⟨cS,p,q⟩:=ID f w es ents (i+1) r h n o;exact⟨cS,by simp[he,p],q⟩
  ·cases h
def QX{n:Nat}{e:TypeId}{a:Value}:∀(ents:List MapEntry) (i:Nat),Instr.findNow (.array n e) a ents i=match ents with|[]=>D Y|_=>Y
 |[],_=>rfl
 |m::_,i=>by cases a<;>rfl
def DF{b:TypeId}{d:TypeDesc}{k:aa}{f:Value}(hu:P.underlying b=D d)(a:oL P d k=V)(l:bb ρ k f)(w:World){es:List (aa×aa)}{ents:List MapEntry}{r:Option (Nat×aa)}(h:my P b k es 0=D r)
  (g:bj ρ (es.map (·.1)) (ents.map (·.key))) (i:bj ρ (es.map (·.2)) (ents.map (·.val))):∃cS,(Instr.findKey b f ents).run P w= .ok cS w/\pY ρ r cS:=by
 obtain⟨n,e,rfl⟩:∃n e,d= .array n e:=by
  unfold oL at a;split at a
  ·exact⟨_,_,rfl⟩
  ·cases a
 obtain⟨cS,c,j⟩:=ID (P:=P) l w es ents 0 r h g i;refine⟨cS,?_,j⟩;unfold Instr.findKey;simp only[Sem.run_bind,run_underlying hu,Result.andThen_ok,QX];cases ents with
 |nil=>exact c
 |cons m ents=>exact c
def iG(P:Program)(H:af)(t:TypeId)(x k:aa)(a:Bool):Option aa:=
 match P.underlying t with
 |some (.map b c)=>
  (match P.underlying b,gv P c with
  |some d,D z=>
   if plainKey d=V then
    (match(match x with| .h1=>D []| .map l=>(match H.get l with|some (.map es)=>D es|_=>Y)|_=>Y)with
    |some es=>
     (match nC d k es 0 with
     |some (D (_,v))=>D (if a then .tuple [v,.bool V]else v)
     |some Y=>D (if a then .tuple [z,.bool U]else z)
     |none=>Y)
    |none=>Y)
   else if oL P d k=V then
    (match(match x with| .h1=>D []| .map l=>(match H.get l with|some (.map es)=>D es|_=>Y)|_=>Y)with
    |some es=>
     (match my P b k es 0 with
     |some (D (_,v))=>D (if a then .tuple [v,.bool V]else v)
     |some Y=>D (if a then .tuple [z,.bool U]else z)
     |none=>Y)
    |none=>Y)
   else Y
  |_,_=>Y)
 |_=>Y
def Pk(N:Rel ρ H w){t:TypeId}{x k v:aa}{F s:Value}{ok:Bool}(h:iG P H t x k ok=D v)(E:bb ρ x F)(q:bb ρ k s):
  ∃r,(Instr.lookup t F s ok).run P w= .ok r w/\bb ρ v r:=by
 unfold iG at h;split at h
 ·rename_i R T hu;split at h
  ·rename_i d z e O;split at h
   ·rename_i m;split at h
    ·rename_i es a;obtain⟨o,C,B⟩:=k2 O w;have G:∃ents:Array MapEntry,bj ρ (es.map (·.1)) (ents.toList.map (·.key))/\bj ρ (es.map (·.2)) (ents.toList.map (·.val))/\
       ∀cS:Option (Nat×Value),Instr.findNow d s ents.toList 0=D cS->(Instr.lookup t F s ok).run P w=
       .ok (match cS with|some (_,v)=>(if ok then .tuple #[v,.bool V]else v)|none=>(if ok then .tuple #[o,.bool U]else o)) w:=by
      split at a
      ·cases E;simp only[a7]at a;subst a;refine⟨#[],by simpa using bj.nil,by simpa using bj.nil,λcS n=> ?_⟩;unfold Instr.lookup;simp only[Sem.run_bind,run_underlying hu,Result.andThen_ok,Sem.run_pure];rw[xD e m];simp only[Result.andThen_ok,Instr.findKey,Sem.run_bind,run_underlying e,n,Sem.run_pure];cases cS with
       |none=>simp[C]
       |some p=>obtain⟨i,v⟩:=p;simp
      ·cases E with|map l loc M=>
       split at a
       ·rename_i es' K;simp only[a7]at a;subst a;obtain⟨ents,clock,Q,L,b,c⟩:=qf (P:=P) N K M;refine⟨ents,b,c,λcS n=> ?_⟩;unfold Instr.lookup;simp only[Sem.run_bind,run_underlying hu,Result.andThen_ok,Sem.run_pure,L];rw[xD e m];simp only[Result.andThen_ok,Instr.findKey,Sem.run_bind,run_underlying e,n,Sem.run_pure];cases cS with
        |none=>simp[C]
        |some p=>obtain⟨i,v⟩:=p;simp
       ·cases a
      ·cases a
     obtain⟨ents,b,c,u⟩:=G;split at h
     ·rename_i i S j;simp only[a7]at h;subst h;obtain⟨cS,f,g,_⟩:=p7 q es ents.toList 0 _ j b c;cases g with|some _ _ y A=>
      refine⟨_,u _ f,?_⟩;cases ok
      ·exact A
      ·exact .tuple _ [y,.bool V] (.cons _ _ _ _ A (.cons _ _ _ _ (.bool _) .nil))
     ·rename_i j;simp only[a7]at h;subst h;obtain⟨cS,f,g,_⟩:=p7 q es ents.toList 0 _ j b c;cases g;refine⟨_,u _ f,?_⟩;cases ok
      ·exact B ρ
      ·exact .tuple _ [o,.bool U] (.cons _ _ _ _ (B ρ) (.cons _ _ _ _ (.bool _) .nil))
     ·cases h
    ·cases h
   ·split at h
    ·rename_i m;split at h
     ·rename_i es a;obtain⟨o,C,B⟩:=k2 O w;have G:∃ents:Array MapEntry,bj ρ (es.map (·.1)) (ents.toList.map (·.key))/\bj ρ (es.map (·.2)) (ents.toList.map (·.val))/\
        ∀cS:Option (Nat×Value),(Instr.findKey R s ents.toList).run P w= .ok cS w->(Instr.lookup t F s ok).run P w=
        .ok (match cS with|some (_,v)=>(if ok then .tuple #[v,.bool V]else v)|none=>(if ok then .tuple #[o,.bool U]else o)) w:=by
       split at a
       ·cases E;simp only[a7]at a;subst a;refine⟨#[],by simpa using bj.nil,by simpa using bj.nil,λcS n=> ?_⟩;unfold Instr.lookup;simp only[Sem.run_bind,run_underlying hu,Result.andThen_ok,Sem.run_pure];rw[Dx e m q];simp only[Result.andThen_ok,n];cases cS with
        |none=>simp[C]
        |some p=>obtain⟨i,v⟩:=p;simp
       ·cases E with|map l loc M=>
        split at a
        ·rename_i es' K;simp only[a7]at a;subst a;obtain⟨ents,clock,Q,L,b,c⟩:=qf (P:=P) N K M;refine⟨ents,b,c,λcS n=> ?_⟩;unfold Instr.lookup;simp only[Sem.run_bind,run_underlying hu,Result.andThen_ok,Sem.run_pure,L];rw[Dx e m q];simp only[Result.andThen_ok,n];cases cS with
         |none=>simp[C]
         |some p=>obtain⟨i,v⟩:=p;simp
        ·cases a
       ·cases a
      obtain⟨ents,b,c,u⟩:=G;split at h
      ·rename_i i S j;simp only[a7]at h;subst h;obtain⟨cS,f,g⟩:=DF e m q w j b c;cases g with|some _ _ y A=>
       refine⟨_,u _ f,?_⟩;cases ok
       ·exact A
       ·exact .tuple _ [y,.bool V] (.cons _ _ _ _ A (.cons _ _ _ _ (.bool _) .nil))
      ·rename_i j;simp only[a7]at h;subst h;obtain⟨cS,f,g⟩:=DF e m q w j b c;cases g;refine⟨_,u _ f,?_⟩;cases ok
       ·exact B ρ
       ·exact .tuple _ [o,.bool U] (.cons _ _ _ _ (B ρ) (.cons _ _ _ _ (.bool _) .nil))
      ·cases h
     ·cases h
    ·cases h
  ·cases h
 ·cases h
def De(H:af):aa×af:=(.map H.next,H.push (.map []))
def Pl(c:Rel ρ H w)(d:ρ H.next=Y)(t:TypeId):∃r a b,(Instr.makeMap t Y).run P w= .ok r a/\bb b (De H).1 r/\Step ρ H w b (De H).2 a:=by
 have e:=NS c d (.map []) rfl (.map #[] 0) ⟨w.heap.size,0,0,0⟩ rfl (λ_ _ _ h=>by cases h) (λes h=>by
  simp only[an.map.injEq]at h;subst h;exact⟨#[],0,heap_alloc_new _ _,by simpa using bj.nil,by simpa using bj.nil⟩) (λ_ _ _ h=>by cases h)
 refine⟨.map (D w.heap.size),_,_,?_,.map H.next ⟨w.heap.size,0,0,0⟩ (Env.fQ _ _ _),e⟩;simp[Instr.makeMap]
def Ig(g:Rel ρ H w){l:Nat}{es es':List (aa×aa)}(i:H.get l=D (.map es)){loc:Loc}(o:ρ l=D loc){ents:Array MapEntry}{clock:Nat}
  (j:bj ρ (es'.map (·.1)) (ents.toList.map (·.key))) (m:bj ρ (es'.map (·.2)) (ents.toList.map (·.val))):
  Step ρ H w ρ (H.set l (.map es')) {w with heap:=w.heap.setIfInBounds loc.block (.map ents clock)}:=by
 have q:=af.iT i;obtain⟨d,f,ad,ab,G,_,_⟩:=g.map _ _ i;obtain rfl:loc=d:=Option.some.inj (o.symm.trans f);have K:=iU G;have p:∀k,k≠loc.block->({w with heap:=w.heap.setIfInBounds loc.block (.map ents clock)}:World).heap[k]? =w.heap[k]? :=λk L=>by
  show(w.heap.setIfInBounds loc.block _)[k]? =_;rw[Array.getElem?_setIfInBounds,if_neg (Ne.symm L)]
 have n:∀a d,H.live a->a≠l->ρ a=D d->d.block≠loc.block:=λa d h bA e heq=>
  g.apart l a loc d (.inr (.inl ⟨_,i⟩)) h (Ne.symm bA) o e heq.symm
 have t:∀a,(H.set l (.map es')).rw a->H.rw a:=by
  intro a h;by_cases c:l=a
  ·subst c;exact .inr (.inl ⟨_,i⟩)
  ·simpa [af.rw,af.gm c]using h
 have M:∀a,(H.set l (.map es')).live a->H.live a:=by
  intro a h;by_cases c:l=a
  ·subst c;exact .inr (.inl ⟨_,i⟩)
  ·simpa [af.live,af.gm c]using h
 refine⟨ρ.le_refl,cW _,λ_ _=>rfl,⟨?_,?_,?_,?_⟩,rfl,rfl,rfl,by simp,?_,?_,af.Fo rfl⟩
 ·intro a ah C A h;by_cases c:l=a
  ·subst c;rw[af.iJ q]at h;cases h
  ·rw[af.gm c]at h;obtain⟨d,f,T,v,u,E,r,s,W⟩:=g.row _ _ _ _ h;exact⟨d,f,T,v,u,E,by rw[p _ (n a d (.inl ⟨_,_,_,h⟩) (Ne.symm c) f)];exact r,s,W⟩
 ·intro a ae h;by_cases c:l=a
  ·subst c;rw[af.iJ q]at h;simp only[a7,an.map.injEq]at h;subst h;refine⟨loc,o,ents,clock,?_,j,m⟩;show(w.heap.setIfInBounds loc.block _)[loc.block]? =_;rw[Array.getElem?_setIfInBounds,if_pos rfl,if_pos K]
  ·rw[af.gm c]at h;obtain⟨d,f,B,x,r,s⟩:=g.map _ _ h;exact⟨d,f,B,x,by rw[p _ (n a d (.inr (.inl ⟨_,h⟩)) (Ne.symm c) f)];exact r,s⟩
 ·intro a u C A h;by_cases c:l=a
  ·subst c;rw[af.iJ q]at h;cases h
  ·rw[af.gm c]at h;obtain⟨d,f,O⟩:=g.dp _ _ _ _ h;exact⟨d,f,O.frame ρ.le_refl (p _ (n a d (.inr (.inr ⟨_,_,_,h⟩)) (Ne.symm c) f))⟩
 ·intro P Q R S j m n y z;exact g.apart P Q R S (t _ j) (M _ m) n y z
 ·intro b _ N;refine p b ?_;rintro rfl;exact N ⟨l,loc,.inr (.inl ⟨_,i⟩),o,rfl⟩
 ·rintro b ⟨a,d,j,m,F⟩;exact .inl ⟨a,d,t _ j,m,F⟩
def kf(P:Program)(H:af)(t:TypeId)(m k v:aa):Option af:=
 match P.underlying t,m with
 |some (.map a _),.map l=>
  (match P.underlying a,H.get l with
  |some d,D (.map es)=>
   if plainKey d=V then
    (match nC d k es 0 with
    |some (D (i,_))=>D (H.set l (.map (es.set i (k,v))))
    |some Y=>D (H.set l (.map (es++[(k,v)])))
    |none=>Y)
   else if oL P d k=V then
    (match my P a k es 0 with
    |some Y=>D (H.set l (.map (es++[(k,v)])))
    |_=>Y)
   else Y
  |_,_=>Y)
 |_,_=>Y
def aqW{d:TypeDesc}{a b:aa}{dD eG:Value}(h:oB d a b=D V)(c:bb ρ a dD)(e:bb ρ b eG)(n:Nat):Instr.sameBits (n+1) eG dD=true:=by
 unfold oB at h;split at h
 ·cases c;cases e;split at h
  ·rename_i f;subst f;simp at h;subst h;simp[Instr.sameBits]
  ·cases h
 ·cases c;cases e;simp at h;subst h;simp[Instr.sameBits,Ik]
 ·cases c;cases e;simp at h;subst h;simp[Instr.sameBits]
 ·cases h
def acm(es:List (aa×aa))(i:Nat)(k v:aa):(es.set i (k,v)).map (·.1)=(es.map (·.1)).set i k:=by simp[List.map_set]
def acn(es:List (aa×aa))(i:Nat)(k v:aa):(es.set i (k,v)).map (·.2)=(es.map (·.2)).set i v:=by simp[List.map_set]
def IG(q:Rel ρ H w){t:TypeId}{m k v:aa}{hq a b:Value}{H':af}(h:kf P H t m k v=D H')(hm:bb ρ m hq)(f:bb ρ k a)(G:bb ρ v b):
  ∃N,(Instr.mapUpdate t hq a b).run P w= .ok () N/\Step ρ H w ρ H' N:=by
 unfold kf at h;split at h
 ·rename_i ah ad l hu;cases hm with|map _ loc x=>
  split at h
  ·rename_i d es z s;split at h
   ·rename_i B;obtain⟨ents,clock,E,F,c,g⟩:=qf (P:=P) q s x;have C:∀aA:Obj,(setObj loc.block aA).run P w= .ok () {w with heap:=w.heap.setIfInBounds loc.block aA}:=λaA=>by simp[setObj,Sem.run,E]
    have L:∀cS,Instr.findNow d a ents.toList 0=D cS->(Instr.mapUpdate t (.map (D loc.block)) a b).run P w=
      (match cS with
       |some (i,_)=>(do
        let key<-Instr.keyThatStays (((ents[i]?).map (·.key)).getD a) a
        setObj loc.block (.map (ents.modify i λe=>{e with key,val:=b}) clock):Sem Unit).run P w
       |none=>(setObj loc.block (.map (ents.push {key:=a,val:=b,born:=clock}) (clock+1))).run P w):=by
     intro cS T;unfold Instr.mapUpdate;simp only[Sem.run_bind,run_underlying hu,Result.andThen_ok,F];rw[xD z B];simp only[Result.andThen_ok,Instr.findKey,Sem.run_bind,run_underlying z,T,Sem.run_pure];cases cS with
     |none=>rfl
     |some p=>obtain⟨i,v⟩:=p;simp only[Sem.run_bind]
    split at h
    ·rename_i i v0 r;simp only[a7]at h;subst h;obtain⟨cS,n,o,K⟩:=p7 f es ents.toList 0 _ r c g;cases o with|some _ _ y ae=>
     obtain⟨_,O,e,he,W⟩:=K i v0 rfl;simp only[Nat.sub_zero,Nat.zero_add]at he O;have hlen:=c.length;simp only[List.length_map,Array.length_toList]at hlen;have A:i<ents.size:=bn;obtain⟨M,Q,S⟩:=c.get i e.1 (by simp[he]);have R:ents[i].key=M:=by simpa [A]using Q
     have ab:(Instr.keyThatStays (((ents[i]?).map (·.key)).getD a) a).run P w= .ok a w:=by
      unfold Instr.keyThatStays;have:((ents[i]?).map (·.key)).getD a=M:=by simp[A,R]
      rw[this,if_pos (aqW W f S 9999)];rfl
     refine⟨_,?_,Ig q s x (es':=es.set i (k,v)) (ents:=ents.modify i λe=>{e with key:=a,val:=b}) (clock:=clock) ?_ ?_⟩
     ·rw[L _ n];simp only[Sem.run_bind,ab,Result.andThen_ok];exact C _
     ·rw[acm];have:(ents.modify i λe=>{e with key:=a,val:=b}).toList.map (·.key)=(ents.toList.map (·.key)).set i a:=by
       apply List.ext_getElem?;intro j;by_cases u:i=j
       ·subst u;simp[A]
       ·simp[u]
      rw[this];exact c.set f i
     ·rw[acn];have:(ents.modify i λe=>{e with key:=a,val:=b}).toList.map (·.val)=(ents.toList.map (·.val)).set i b:=by
       apply List.ext_getElem?;intro j;by_cases u:i=j
       ·subst u;simp[A]
       ·simp[u]
      rw[this];exact g.set G i
    ·rename_i r;simp only[a7]at h;subst h;obtain⟨cS,n,o,K⟩:=p7 f es ents.toList 0 _ r c g;cases o;refine⟨_,?_,Ig q s x (es':=es++[(k,v)]) (ents:=ents.push {key:=a,val:=b,born:=clock}) (clock:=clock+1) ?_ ?_⟩
     ·rw[L _ n];exact C _
     ·simpa using c.append (.cons _ _ _ _ f .nil)
     ·simpa using g.append (.cons _ _ _ _ G .nil)
    ·cases h
   ·split at h
    ·rename_i B;obtain⟨ents,clock,E,F,c,g⟩:=qf (P:=P) q s x;have C:∀aA:Obj,(setObj loc.block aA).run P w= .ok () {w with heap:=w.heap.setIfInBounds loc.block aA}:=λaA=>by simp[setObj,Sem.run,E]
     split at h
     ·rename_i r;simp only[a7]at h;subst h;obtain⟨cS,n,o⟩:=DF z B f w r c g;cases o;refine⟨_,?_,Ig q s x (es':=es++[(k,v)]) (ents:=ents.push {key:=a,val:=b,born:=clock}) (clock:=clock+1) ?_ ?_⟩
      ·unfold Instr.mapUpdate;simp only[Sem.run_bind,run_underlying hu,Result.andThen_ok,F];rw[Dx z B f];simp only[Result.andThen_ok,n];exact C _
      ·simpa using c.append (.cons _ _ _ _ f .nil)
      ·simpa using g.append (.cons _ _ _ _ G .nil)
     ·cases h
    ·cases h
  ·cases h
 ·cases h
