/-
  Texts of one proof, laid together: Hv10 Hv11 Hv12 Hv13 Hv14.
-/
import Derived.Test.YtmhhnnklfcbgfaaGreatMB
import Derived.Orders
set_option linter.unusedVariables false
set_option linter.unusedSimpArgs false
set_option linter.defProp false
open Option renaming some→D,none→I
open Bool renaming true→C,false→Z
namespace Go.bz
section
variable {P:Program}{ρ:Env}{H:ad}{w:World}
def nH(d:TypeDesc)(a b:ae):Option Bool:=
 match d,a,b with
 | .int _,.int k x,.int c y=>if k=c then D (x==y)else I
 | .string,.str x,.str y=>D (x==y)
 | .bool,.bool x,.bool y=>D (x==y)
 |_,_,_=>I
def mD(d:TypeDesc)(k:ae):List (ae×ae)->Nat->Option (Option (Nat×ae))
 |[],_=>D I
 |e::es,i=>match nH d k e.1 with
  |some C=>D (D (i,e.2))
  |some Z=>mD d k es (i+1)
  |none=>I
def H2{d:TypeDesc}{a b:ae}{b8 b':Value}{r:Bool}(h:nH d a b=D r)(c:bp ρ a b8)(e:bp ρ b b'):Instr.sameNow d b8 b'=D r:=by
 unfold nH at h;split at h
 ·cases c;cases e;split at h
  ·rename_i f;subst f;simpa [Instr.sameNow]using h
  ·cases h
 ·cases c;cases e;simp only[bb]at h;subst h;simp[Instr.sameNow,D6]
 ·cases c;cases e;simpa [Instr.sameNow]using h
 ·cases h
inductive rj(ρ:Env):Option (Nat×ae)->Option (Nat×Value)->Prop where
 |none:rj ρ none none
 |some (i:Nat) (v:ae) (x:Value) (h:bp ρ v x):rj ρ (some (i,v)) (some (i,x))
def rC{d:TypeDesc}{k:ae}{g:Value}(c:bp ρ k g):∀(es:List (ae×ae)) (ents:List MapEntry) (i:Nat) (r:Option (Nat×ae)),mD d k es i=D r->
  bO ρ (es.map (·.1)) (ents.map (·.key))->bO ρ (es.map (·.2)) (ents.map (·.val))->∃r',Instr.findNow d g ents i=D r'/\rj ρ r r'/\∀j v,r=D (j,v)->i<=j/\j<i+es.length/\∃e,es[j-i]? =D e/\nH d k e.1=D C
 |[],ents,i,r,h,af,ah=>by
  simp[mD]at h;subst h;have:ents=[]:=by
   have:=af.length;simp at this;exact List.eq_nil_of_length_eq_zero this.symm
  subst this;exact⟨I,rfl,.none,λj v h=>by cases h⟩
 |e::es,[],i,r,h,af,ah=>by have:=af.length;simp at this
 |e::es,m::ents,i,r,h,af,ah=>by
  simp only[List.map_cons]at af ah;cases af with|cons _ _ _ _ f n=>
  cases ah with|cons _ _ _ _ l o=>
  unfold mD at h;unfold Instr.findNow;split at h
  ·rename_i b;simp only[bb]at h;subst h;rw[H2 b c f];exact⟨_,rfl,.some i _ _ l,λj v a=>by
    simp only[bb,cK]at a;obtain⟨rfl,_⟩:=a;exact⟨bC _,by simp,e,by simp,b⟩⟩
  ·rename_i b;rw[H2 b c f];obtain⟨r',an,aM,q⟩:=rC c es ents (i+1) r h n o;refine⟨r',an,aM,λj v a=> ?_⟩;obtain⟨u,w,p,s,t⟩:=q j v a;refine⟨aa,by simp;omega,p,?_,t⟩;rw[show j-i=(j-(i+1))+1 by omega];simpa using s
  ·cases h
def plainKey(d:TypeDesc):Bool:=
 match d with
 | .int _| .string| .bool=>C
 |_=>Z
def u9{t:TypeId}{d:TypeDesc}(hu:P.underlying t=D d)(a:plainKey d=C)(empty:Bool)(v:Value)(n:Nat)(w:World):(Instr.checkKey empty (n+1) t v).run P w= .ok () w:=by
 unfold Instr.checkKey;simp only[Sem.run_bind,run_underlying hu,Result.andThen_ok];cases d<;>simp[plainKey]at a<;>rfl
def nQ(P:Program)(d:TypeDesc)(k:ae):Bool:=
 match d,k with
 | .array 2 e,.agg cs=>(match P.underlying e with|some (.int _)=>C|_=>Z)&&(match cp P e with|some n=>(apart P e cs (0*n)).isSome&&(apart P e cs (1*n)).isSome|none=>Z)
 |_,_=>Z
def zR{t:TypeId}{d:TypeDesc}{k:ae}{b:Value}(hu:P.underlying t=D d)(a:nQ P d k=C)(g:bp ρ k b)(empty:Bool)(n:Nat)(w:World):(Instr.checkKey empty (n+2) t b).run P w= .ok () w:=by
 unfold nQ at a;split at a
 ·rename_i e cs;simp only[Bool.and_eq_true]at a;obtain⟨af,ah⟩:=a;split at af
  ·rename_i i he;split at ah
   ·rename_i m hm;simp only[Bool.and_eq_true]at ah;obtain⟨a0,an⟩:=Option.isSome_iff_exists.1 ah.1;obtain⟨h,aM⟩:=Option.isSome_iff_exists.1 ah.2;cases g with|agg _ xs aA=>
    obtain⟨j,c,_⟩:=nr an aA w;obtain⟨x1,f,_⟩:=nr aM aA w;have aq:∀v:Value,(Instr.checkKey empty (n+1) e v).run P w= .ok () w:=λv=>u9 he rfl empty v n w
    unfold Instr.checkKey;simp only[Sem.run_bind,run_underlying hu,Result.andThen_ok];rw[Std.Legacy.Range.forIn_eq_forIn_range'];simp only[Nat.zero_mul,Nat.one_mul]at c f;simp[List.range',run_sizeOf hm,c,f,aq]
   ·cases ah
  ·cases af
 ·cases a
def lZ(P:Program)(a:TypeId)(k:ae):List (ae×ae)->Nat->Option (Option (Nat×ae))
 |[],_=>D I
 |e::es,i=>match h6 P 10000 a k e.1 with
  |some C=>D (D (i,e.2))
  |some Z=>lZ P a k es (i+1)
  |none=>I
def EU{b:TypeId}{k:ae}{a:Value}(c:bp ρ k a)(w:World):∀(es:List (ae×ae)) (ents:List MapEntry) (i:Nat) (r:Option (Nat×ae)),lZ P b k es i=D r->
  bO ρ (es.map (·.1)) (ents.map (·.key))->bO ρ (es.map (·.2)) (ents.map (·.val))->∃r',(Instr.findAsking b a ents i).run P w= .ok r' w/\rj ρ r r'
 |[],ents,i,r,h,af,ah=>by
  simp[lZ]at h;subst h;have:ents=[]:=by
   have:=af.length;simp at this;exact List.eq_nil_of_length_eq_zero this.symm
  subst this;exact⟨I,rfl,.none⟩
 |e::es,[],i,r,h,af,ah=>by have:=af.length;simp at this
 |e::es,m::ents,i,r,h,af,ah=>by
  simp only[List.map_cons]at af ah;cases af with|cons _ _ _ _ f j=>
  cases ah with|cons _ _ _ _ g l=>
  unfold lZ at h;unfold Instr.findAsking;split at h
  ·rename_i d;simp only[bb]at h;subst h;have he:(Op.equal b a m.key).run P w= .ok C w:=rR (ρ:=ρ) w _ _ _ _ _ _ _ d c f;exact⟨_,by simp[he],.some i _ _ g⟩
  ·rename_i d;have he:(Op.equal b a m.key).run P w= .ok Z w:=rR (ρ:=ρ) w _ _ _ _ _ _ _ d c f;obtain⟨r',an,aM⟩:=EU c w es ents (i+1) r h j l;exact⟨r',by simp[he,an],aM⟩
  ·cases h
def R3{n:Nat}{e:TypeId}{a:Value}:∀(ents:List MapEntry) (i:Nat),Instr.findNow (.array n e) a ents i=match ents with|[]=>D I|_=>I
 |[],_=>rfl
 |m::_,i=>by cases a<;>rfl
def Ab{b:TypeId}{d:TypeDesc}{k:ae}{c:Value}(hu:P.underlying b=D d)(a:nQ P d k=C)(f:bp ρ k c)(w:World){es:List (ae×ae)}{ents:List MapEntry}{r:Option (Nat×ae)}(h:lZ P b k es 0=D r)
  (af:bO ρ (es.map (·.1)) (ents.map (·.key))) (ah:bO ρ (es.map (·.2)) (ents.map (·.val))):∃r',(Instr.findKey b c ents).run P w= .ok r' w/\rj ρ r r':=by
 obtain⟨n,e,rfl⟩:∃n e,d= .array n e:=by
  unfold nQ at a;split at a
  ·exact⟨_,_,rfl⟩
  ·cases a
 obtain⟨r',an,aM⟩:=EU (P:=P) f w es ents 0 r h af ah;refine⟨r',?_,aM⟩;unfold Instr.findKey;simp only[Sem.run_bind,run_underlying hu,Result.andThen_ok,R3];cases ents with
 |nil=>exact an
 |cons m ents=>exact an
def k2(P:Program)(H:ad)(t:TypeId)(x k:ae)(a:Bool):Option ae:=
 match P.underlying t with
 |some (.map b c)=>
  (match P.underlying b,e2 P c with
  |some d,D z=>
   if plainKey d=C then
    (match(match x with| .ib=>D []| .map l=>(match H.get l with|some (.map es)=>D es|_=>I)|_=>I)with
    |some es=>
     (match mD d k es 0 with
     |some (D (_,v))=>D (if a then .tuple [v,.bool C]else v)
     |some I=>D (if a then .tuple [z,.bool Z]else z)
     |none=>I)
    |none=>I)
   else if nQ P d k=C then
    (match(match x with| .ib=>D []| .map l=>(match H.get l with|some (.map es)=>D es|_=>I)|_=>I)with
    |some es=>
     (match lZ P b k es 0 with
     |some (D (_,v))=>D (if a then .tuple [v,.bool C]else v)
     |some I=>D (if a then .tuple [z,.bool Z]else z)
     |none=>I)
    |none=>I)
   else I
  |_,_=>I)
 |_=>I
def NJ(K:Rel ρ H w){t:TypeId}{x k v:ae}{B n:Value}{ok:Bool}(h:k2 P H t x k ok=D v)(aA:bp ρ x B)(m:bp ρ k n):
  ∃r,(Instr.lookup t B n ok).run P w= .ok r w/\bp ρ v r:=by
 unfold k2 at h;split at h
 ·rename_i N Q hu;split at h
  ·rename_i d z b L;split at h
   ·rename_i f;split at h
    ·rename_i es a;obtain⟨j,u,s⟩:=nt L w;have E:∃ents:Array MapEntry,bO ρ (es.map (·.1)) (ents.toList.map (·.key))/\bO ρ (es.map (·.2)) (ents.toList.map (·.val))/\
       ∀r':Option (Nat×Value),Instr.findNow d n ents.toList 0=D r'->(Instr.lookup t B n ok).run P w=
       .ok (match r' with|some (_,v)=>(if ok then .tuple #[v,.bool C]else v)|none=>(if ok then .tuple #[j,.bool Z]else j)) w:=by
      split at a
      ·cases aA;simp only[bb]at a;subst a;refine⟨#[],by simpa using bO.nil,by simpa using bO.nil,λr' g=> ?_⟩;unfold Instr.lookup;simp only[Sem.run_bind,run_underlying hu,Result.andThen_ok,Sem.run_pure];rw[u9 b f];simp only[Result.andThen_ok,Instr.findKey,Sem.run_bind,run_underlying b,g,Sem.run_pure];cases r' with
       |none=>simp[u]
       |some p=>obtain⟨i,v⟩:=p;simp
      ·cases aA with|map l loc al=>
       split at a
       ·rename_i es' aP;simp only[bb]at a;subst a;obtain⟨ents,clock,M,G,af,ah⟩:=rV (P:=P) K aP al;refine⟨ents,af,ah,λr' g=> ?_⟩;unfold Instr.lookup;simp only[Sem.run_bind,run_underlying hu,Result.andThen_ok,Sem.run_pure,G];rw[u9 b f];simp only[Result.andThen_ok,Instr.findKey,Sem.run_bind,run_underlying b,g,Sem.run_pure];cases r' with
        |none=>simp[u]
        |some p=>obtain⟨i,v⟩:=p;simp
       ·cases a
      ·cases a
     obtain⟨ents,af,ah,o⟩:=E;split at h
     ·rename_i i O az;simp only[bb]at h;subst h;obtain⟨r',c,e,_⟩:=rC m es ents.toList 0 _ az af ah;cases e with|some _ _ y q=>
      refine⟨_,o _ c,?_⟩;cases ok
      ·exact q
      ·exact .tuple _ [y,.bool C] (.cons _ _ _ _ q (.cons _ _ _ _ (.bool _) .nil))
     ·rename_i az;simp only[bb]at h;subst h;obtain⟨r',c,e,_⟩:=rC m es ents.toList 0 _ az af ah;cases e;refine⟨_,o _ c,?_⟩;cases ok
      ·exact s ρ
      ·exact .tuple _ [j,.bool Z] (.cons _ _ _ _ (s ρ) (.cons _ _ _ _ (.bool _) .nil))
     ·cases h
    ·cases h
   ·split at h
    ·rename_i f;split at h
     ·rename_i es a;obtain⟨j,u,s⟩:=nt L w;have E:∃ents:Array MapEntry,bO ρ (es.map (·.1)) (ents.toList.map (·.key))/\bO ρ (es.map (·.2)) (ents.toList.map (·.val))/\
        ∀r':Option (Nat×Value),(Instr.findKey N n ents.toList).run P w= .ok r' w->(Instr.lookup t B n ok).run P w=
        .ok (match r' with|some (_,v)=>(if ok then .tuple #[v,.bool C]else v)|none=>(if ok then .tuple #[j,.bool Z]else j)) w:=by
       split at a
       ·cases aA;simp only[bb]at a;subst a;refine⟨#[],by simpa using bO.nil,by simpa using bO.nil,λr' g=> ?_⟩;unfold Instr.lookup;simp only[Sem.run_bind,run_underlying hu,Result.andThen_ok,Sem.run_pure];rw[zR b f m];simp only[Result.andThen_ok,g];cases r' with
        |none=>simp[u]
        |some p=>obtain⟨i,v⟩:=p;simp
       ·cases aA with|map l loc al=>
        split at a
        ·rename_i es' aP;simp only[bb]at a;subst a;obtain⟨ents,clock,M,G,af,ah⟩:=rV (P:=P) K aP al;refine⟨ents,af,ah,λr' g=> ?_⟩;unfold Instr.lookup;simp only[Sem.run_bind,run_underlying hu,Result.andThen_ok,Sem.run_pure,G];rw[zR b f m];simp only[Result.andThen_ok,g];cases r' with
         |none=>simp[u]
         |some p=>obtain⟨i,v⟩:=p;simp
        ·cases a
       ·cases a
      obtain⟨ents,af,ah,o⟩:=E;split at h
      ·rename_i i O az;simp only[bb]at h;subst h;obtain⟨r',c,e⟩:=Ab b f m w az af ah;cases e with|some _ _ y q=>
       refine⟨_,o _ c,?_⟩;cases ok
       ·exact q
       ·exact .tuple _ [y,.bool C] (.cons _ _ _ _ q (.cons _ _ _ _ (.bool _) .nil))
      ·rename_i az;simp only[bb]at h;subst h;obtain⟨r',c,e⟩:=Ab b f m w az af ah;cases e;refine⟨_,o _ c,?_⟩;cases ok
       ·exact s ρ
       ·exact .tuple _ [j,.bool Z] (.cons _ _ _ _ (s ρ) (.cons _ _ _ _ (.bool _) .nil))
      ·cases h
     ·cases h
    ·cases h
  ·cases h
 ·cases h
def zs(H:ad):ae×ad:=(.map H.next,H.push (.map []))
def NK(c:Rel ρ H w)(az:ρ H.next=I)(t:TypeId):∃r a b,(Instr.makeMap t I).run P w= .ok r a/\bp b (zs H).1 r/\Step ρ H w b (zs H).2 a:=by
 have d:=JX c az (.map []) rfl rfl (.map #[] 0) ⟨w.heap.size,0,0,0⟩ rfl (λ_ _ _ h=>by cases h) (λes h=>by
  simp only[bn.map.injEq]at h;subst h;exact⟨#[],0,heap_alloc_new _ _,by simpa using bO.nil,by simpa using bO.nil⟩) (λ_ _ _ h=>by cases h)
 refine⟨.map (D w.heap.size),_,_,?_,.map H.next ⟨w.heap.size,0,0,0⟩ (Env.gK _ _ _),d⟩;simp[Instr.makeMap]
def DQ(g:Rel ρ H w){l:Nat}{es es':List (ae×ae)}(aP:H.get l=D (.map es)){loc:Loc}(al:ρ l=D loc){ents:Array MapEntry}{clock:Nat}
  (af:bO ρ (es'.map (·.1)) (ents.toList.map (·.key))) (ah:bO ρ (es'.map (·.2)) (ents.toList.map (·.val))):
  Step ρ H w ρ (H.set l (.map es')) {w with heap:=w.heap.setIfInBounds loc.block (.map ents clock)}:=by
 have j:=ad.bE aP;obtain⟨d,f,V,U,G,_,_⟩:=g.map _ _ aP;obtain rfl:loc=d:=Option.some.inj (al.symm.trans f);have K:=j4 G;have m:∀k,k≠loc.block->({w with heap:=w.heap.setIfInBounds loc.block (.map ents clock)}:World).heap[k]? =w.heap[k]? :=λk L=>by
  show(w.heap.setIfInBounds loc.block _)[k]? =_;rw[Array.getElem?_setIfInBounds,if_neg (Ne.symm L)]
 have i:∀a d,H.live a->a≠l->ρ a=D d->d.block≠loc.block:=λa d h bY e heq=>
  g.apart l a loc d (.inr (.inl ⟨_,aP⟩)) h (Ne.symm bY) al e heq.symm
 have t:∀a,(H.set l (.map es')).rw a->H.rw a:=by
  intro a h;by_cases c:l=a
  ·subst c;exact .inr (.inl ⟨_,aP⟩)
  ·simpa [ad.rw,ad.cb c]using h
 have M:∀a,(H.set l (.map es')).live a->H.live a:=by
  intro a h;by_cases c:l=a
  ·subst c;exact .inr (.inl ⟨_,aP⟩)
  ·simpa [ad.live,ad.cb c]using h
 have r:∀b,b<w.heap.size->¬d_ ρ H b->({w with heap:=w.heap.setIfInBounds loc.block (.map ents clock)}:World).heap[b]? =w.heap[b]? :=by
  intro b _ N;refine m b ?_;rintro rfl;exact N ⟨l,loc,.inr (.inl ⟨_,aP⟩),al,rfl⟩
 have s:∀b,d_ ρ (H.set l (.map es')) b->d_ ρ H b\/w.heap.size<=b:=by
  rintro b ⟨a,d,af,ah,an⟩;exact .inl ⟨a,d,t _ af,ah,an⟩
 refine⟨ρ.le_refl,bC _,λ_ _=>rfl,⟨?_,?_,?_,?_,?_⟩,rfl,rfl,rfl,by simp,r,s,ad.BB rfl,.same (ad.v_ rfl)⟩
 ·intro a Y q p h;by_cases c:l=a
  ·subst c;rw[ad.c8 j]at h;cases h
  ·rw[ad.cb c]at h;obtain⟨d,f,S,v,u,E,n,o,T⟩:=g.row _ _ _ _ h;exact⟨d,f,S,v,u,E,by rw[m _ (i a d (.inl ⟨_,_,_,h⟩) (Ne.symm c) f)];exact n,o,T⟩
 ·intro a W h;by_cases c:l=a
  ·subst c;rw[ad.c8 j]at h;simp only[bb,bn.map.injEq]at h;subst h;refine⟨loc,al,ents,clock,?_,af,ah⟩;show(w.heap.setIfInBounds loc.block _)[loc.block]? =_;rw[Array.getElem?_setIfInBounds,if_pos rfl,if_pos K]
  ·rw[ad.cb c]at h;obtain⟨d,f,B,x,n,o⟩:=g.map _ _ h;exact⟨d,f,B,x,by rw[m _ (i a d (.inr (.inl ⟨_,h⟩)) (Ne.symm c) f)];exact n,o⟩
 ·intro a u q p h;by_cases c:l=a
  ·subst c;rw[ad.c8 j]at h;cases h
  ·rw[ad.cb c]at h;obtain⟨d,f,au⟩:=g.dz _ _ _ _ h;exact⟨d,f,au.frame ρ.le_refl (m _ (i a d (.inr (.inr ⟨_,_,_,h⟩)) (Ne.symm c) f))⟩
 ·intro O P Q R af ah i y z;exact g.apart O P Q R (t _ af) (M _ ah) i y z
 ·intro a aa q p h;by_cases c:l=a
  ·subst c;rw[ad.c8 j]at h;cases h
  ·rw[ad.cb c]at h;exact(g.old _ _ _ _ h).step ρ.le_refl (by simp) r s
def iD(P:Program)(H:ad)(t:TypeId)(m k v:ae):Option ad:=
 match P.underlying t,m with
 |some (.map a _),.map l=>
  (match P.underlying a,H.get l with
  |some d,D (.map es)=>
   if plainKey d=C then
    (match mD d k es 0 with
    |some (D (i,_))=>D (H.set l (.map (es.set i (k,v))))
    |some I=>D (H.set l (.map (es++[(k,v)])))
    |none=>I)
   else if nQ P d k=C then
    (match lZ P a k es 0 with
    |some I=>D (H.set l (.map (es++[(k,v)])))
    |_=>I)
   else I
  |_,_=>I)
 |_,_=>I
def ZB{d:TypeDesc}{a b:ae}{b8 b':Value}(h:nH d a b=D C)(c:bp ρ a b8)(e:bp ρ b b')(n:Nat):Instr.sameBits (n+1) b' b8=true:=by
 unfold nH at h;split at h
 ·cases c;cases e;split at h
  ·rename_i f;subst f;simp at h;subst h;simp[Instr.sameBits]
  ·cases h
 ·cases c;cases e;simp at h;subst h;simp[Instr.sameBits,D6]
 ·cases c;cases e;simp at h;subst h;simp[Instr.sameBits]
 ·cases h
def U3(es:List (ae×ae))(i:Nat)(k v:ae):(es.set i (k,v)).map (·.1)=(es.map (·.1)).set i k:=by simp[List.map_set]
def U4(es:List (ae×ae))(i:Nat)(k v:ae):(es.set i (k,v)).map (·.2)=(es.map (·.2)).set i v:=by simp[List.map_set]
def EY(n:Rel ρ H w){t:TypeId}{m k v:ae}{e5 a b:Value}{H':ad}(h:iD P H t m k v=D H')(hm:bp ρ m e5)(c:bp ρ k a)(E:bp ρ v b):
  ∃M,(Instr.mapUpdate t e5 a b).run P w= .ok () M/\Step ρ H w ρ H' M:=by
 unfold iD at h;split at h
 ·rename_i Y V l hu;cases hm with|map _ loc al=>
  split at h
  ·rename_i d es r aP;split at h
   ·rename_i u;obtain⟨ents,clock,z,B,af,ah⟩:=rV (P:=P) n aP al;have x:∀o:Obj,(setObj loc.block o).run P w= .ok () {w with heap:=w.heap.setIfInBounds loc.block o}:=λo=>by simp[setObj,Sem.run,z]
    have K:∀r',Instr.findNow d a ents.toList 0=D r'->(Instr.mapUpdate t (.map (D loc.block)) a b).run P w=
      (match r' with
       |some (i,_)=>(do
        let key<-Instr.keyThatStays (((ents[i]?).map (·.key)).getD a) a
        setObj loc.block (.map (ents.modify i λe=>{e with key,val:=b}) clock):Sem Unit).run P w
       |none=>(setObj loc.block (.map (ents.push {key:=a,val:=b,born:=clock}) (clock+1))).run P w):=by
     intro r' S;unfold Instr.mapUpdate;simp only[Sem.run_bind,run_underlying hu,Result.andThen_ok,B];rw[u9 r u];simp only[Result.andThen_ok,Instr.findKey,Sem.run_bind,run_underlying r,S,Sem.run_pure];cases r' with
     |none=>rfl
     |some p=>obtain⟨i,v⟩:=p;simp only[Sem.run_bind]
    split at h
    ·rename_i i v0 az;simp only[bb]at h;subst h;obtain⟨r',f,g,G⟩:=rC c es ents.toList 0 _ az af ah;cases g with|some _ _ y W=>
     obtain⟨_,N,e,he,T⟩:=G i v0 rfl;simp only[Nat.sub_zero,Nat.zero_add]at he N;have hlen:=af.length;simp only[List.length_map,Array.length_toList]at hlen;have s:i<ents.size:=aa;obtain⟨L,O,R⟩:=af.get i e.1 (by simp[he]);have Q:ents[i].key=L:=by simpa [s]using O
     have U:(Instr.keyThatStays (((ents[i]?).map (·.key)).getD a) a).run P w= .ok a w:=by
      unfold Instr.keyThatStays;have:((ents[i]?).map (·.key)).getD a=L:=by simp[s,Q]
      rw[this,if_pos (ZB T c R 9999)];rfl
     refine⟨_,?_,DQ n aP al (es':=es.set i (k,v)) (ents:=ents.modify i λe=>{e with key:=a,val:=b}) (clock:=clock) ?_ ?_⟩
     ·rw[K _ f];simp only[Sem.run_bind,U,Result.andThen_ok];exact x _
     ·rw[U3];have:(ents.modify i λe=>{e with key:=a,val:=b}).toList.map (·.key)=(ents.toList.map (·.key)).set i a:=by
       apply List.ext_getElem?;intro j;by_cases q:i=j
       ·subst q;simp[s]
       ·simp[q]
      rw[this];exact af.set c i
     ·rw[U4];have:(ents.modify i λe=>{e with key:=a,val:=b}).toList.map (·.val)=(ents.toList.map (·.val)).set i b:=by
       apply List.ext_getElem?;intro j;by_cases q:i=j
       ·subst q;simp[s]
       ·simp[q]
      rw[this];exact ah.set E i
    ·rename_i az;simp only[bb]at h;subst h;obtain⟨r',f,g,G⟩:=rC c es ents.toList 0 _ az af ah;cases g;refine⟨_,?_,DQ n aP al (es':=es++[(k,v)]) (ents:=ents.push {key:=a,val:=b,born:=clock}) (clock:=clock+1) ?_ ?_⟩
     ·rw[K _ f];exact x _
     ·simpa using af.append (.cons _ _ _ _ c .nil)
     ·simpa using ah.append (.cons _ _ _ _ E .nil)
    ·cases h
   ·split at h
    ·rename_i u;obtain⟨ents,clock,z,B,af,ah⟩:=rV (P:=P) n aP al;have x:∀o:Obj,(setObj loc.block o).run P w= .ok () {w with heap:=w.heap.setIfInBounds loc.block o}:=λo=>by simp[setObj,Sem.run,z]
     split at h
     ·rename_i az;simp only[bb]at h;subst h;obtain⟨r',f,g⟩:=Ab r u c w az af ah;cases g;refine⟨_,?_,DQ n aP al (es':=es++[(k,v)]) (ents:=ents.push {key:=a,val:=b,born:=clock}) (clock:=clock+1) ?_ ?_⟩
      ·unfold Instr.mapUpdate;simp only[Sem.run_bind,run_underlying hu,Result.andThen_ok,B];rw[zR r u c];simp only[Result.andThen_ok,f];exact x _
      ·simpa using af.append (.cons _ _ _ _ c .nil)
      ·simpa using ah.append (.cons _ _ _ _ E .nil)
     ·cases h
    ·cases h
  ·cases h
 ·cases h
end
structure ba where
 t:bu ae
 size:Nat
def ba.get(R:ba)(d:Nat):ae:=match R.t.get d with
 |some v=>v
 |none=> .tuple []
def ba.put(R:ba)(dst:Option Nat)(v:ae):Option ba:=match dst with
 |none=>D R
 |some d=>if d<R.size then D {R with t:=bu.put v (d+1) R.t d}else I
structure dX(ρ:Env)(R:ba)(a:Act):Prop where
 size:R.size=a.tmps.size
 get:∀d,bp ρ (R.get d) (a.tmps.getD d undef)
 none:a.defers=[]
def dX.mono{ρ b:Env}{R:ba}{a:Act}(h:dX ρ R a)(hle:ρ.le b):dX b R a:=⟨h.size,λd=>(h.get d).mono hle,h.none⟩
def ba.qe{R a7:ba}{dst:Option Nat}{v:ae}(h:R.put dst v=D a7)(d:Nat):a7.get d=if dst=D d then v else R.get d:=by
 cases dst with
 |none=>simp only[ba.put,bb]at h;subst h;simp
 |some e=>
  simp only[ba.put]at h;split at h
  ·simp only[bb]at h;subst h;by_cases he:e=d
   ·subst he;simp[ba.get,bu.rW v (e+1) R.t e aa]
   ·have:(D e=D d)=False:=by simp[he]
    simp[ba.get,bu.qf v (e+1) R.t e d he,he]
  ·cases h
def ba.size_put{R a7:ba}{dst:Option Nat}{v:ae}(h:R.put dst v=D a7):a7.size=R.size:=by
 cases dst with
 |none=>simp only[ba.put,bb]at h;subst h;rfl
 |some e=>
  simp only[ba.put]at h;split at h
  ·simp only[bb]at h;subst h;rfl
  ·cases h
def ba.JY{R a7:ba}{d:Nat}{v:ae}(h:R.put (D d) v=D a7):d<R.size:=by
 simp only[ba.put]at h;split at h
 ·assumption
 ·cases h
def dX.put{ρ:Env}{R a7:ba}{a:Act}{dst:Option Nat}{v:ae}{x:Value}(h:dX ρ R a)(b:R.put dst v=D a7)(f:bp ρ v x):dX ρ a7 (a.put dst x):=by
 refine⟨?_,λd=> ?_,?_⟩
 ·rw[ba.size_put b,h.size];cases dst<;>simp[Act.put]
 ·rw[ba.qe b];cases dst with
  |none=>simpa [Act.put]using h.get d
  |some e=>
   have c:=ba.JY b;rw[h.size]at c;by_cases he:e=d
   ·subst he;simpa [Act.put,c]using f
   ·have:=h.get d;simp only[bb,he,if_false,Act.put,Array.getD_eq_getD_getElem?,Array.getElem?_setIfInBounds];simpa using this
 ·cases dst<;>simpa [Act.put]using h.none
def b4(R:ba):Operand->Option ae
 | .tmp t=>D (R.get t)
 | .const v=>sj v
 | .global _=>I
 | .func f=>D (.func (.func f) [] [])
section
variable {P:Program}{ρ:Env}{H:ad}{w:World}{R:ba}{a:Act}
def dJ(au:dX ρ R a){x:Operand}{v:ae}(h:b4 R x=D v):bp ρ v (a.eval x):=by
 cases x with
 |tmp t=>simp only[b4,bb]at h;subst h;exact au.get t
 |const c=>exact v7 h ρ
 |global g=>cases h
 |func f=>simp only[b4,bb]at h;subst h;exact .func (.func f) [] [] [] [] .nil .nil
def hQ(R:ba):List Operand->Option (List ae)
 |[]=>D []
 |x::xs=>match b4 R x,hQ R xs with
  |some v,D ak=>D (v::ak)
  |_,_=>I
def oz(au:dX ρ R a):∀{xs:List Operand} {ak:List ae},hQ R xs=D ak->bO ρ ak (xs.map a.eval)
 |[],ak,h=>by simp only[hQ,bb]at h;subst h;exact .nil
 |x::xs,ak,h=>by
  simp only[hQ]at h;split at h
  ·rename_i v d b c;simp only[bb]at h;subst h;exact .cons _ _ _ _ (dJ au b) (oz au c)
  ·cases h
def jU(R:ba):List (Nat×Operand)->Option (List (Nat×ae))
 |[]=>D []
 |(i,x)::xs=>match b4 R x,jU R xs with
  |some v,D ak=>D ((i,v)::ak)
  |_,_=>I
def zy(au:dX ρ R a):∀{xs:List (Nat×Operand)} {ak:List (Nat×ae)},jU R xs=D ak->pH ρ ak (xs.map λ(i,x)=>(i,a.eval x))
 |[],ak,h=>by simp only[jU,bb]at h;subst h;exact trivial
 |(i,x)::xs,ak,h=>by
  simp only[jU]at h;split at h
  ·rename_i v d b c;simp only[bb]at h;subst h;exact⟨rfl,dJ au b,zy au c⟩
  ·cases h
def k4(R:ba):Option Operand->Option (Option ae)
 |none=>D I
 |some x=>match b4 R x with
  |some v=>D (D v)
  |none=>I
def zF(au:dX ρ R a){x:Option Operand}{v:Option ae}(h:k4 R x=D v):pG ρ v (x.map a.eval):=by
 cases x with
 |none=>simp only[k4,bb]at h;subst h;exact .none
 |some x=>
  simp only[k4]at h;split at h
  ·rename_i u hu;simp only[bb]at h;subst h;exact .some _ _ (dJ au hu)
  ·cases h
def hC:ae->Option ae
 | .ptr l i c=>D (.ptr l i c)
 | .iface t v=>D (.iface t v)
 | .func (.func f) x y=>D (.func (.func f) x y)
 |_=>I
def mE(P:Program)(t:TypeId)(v:ae):Option ae:=
 match P.underlying t with
 |some (.interface _)=>I
 |some _=>D (.iface t v)
 |none=>I
def bL(P:Program)(H:ad)(b:Builtin)(ts:List TypeId)(ak:List ae):Option ae:=
 match b,ts,ak with
 | .len,[t],[x]=>rD P H t x
 | .max,_,[x,y]=>zt x y
 | .min,_,[x,y]=>zu x y
 | .cap,[t],[x]=>zj P t x
 |_,_,_=>I
def pN(P:Program)(t:TypeId)(ok:Bool)(v:ae):Option ae:=
 match v with
 | .iface d u=>if d=t/\ok=Z then(match P.underlying t with|some (.interface _)=>I|some _=>D u|none=>I)else I
 |_=>I
def iE(P:Program)(o:Op)(R:ba):Option ae:=
 match o with
 | .move x=>b4 R x
 | .assign x=>b4 R x
 | .pick c a b=>match b4 R c with
  |some (.bool t)=>if t then b4 R a else b4 R b
  |_=>I
 | .build t db=>(jU R db.toList).bind (dU P t)
 | .nilCheck x=>(b4 R x).bind hC
 | .binOp op t x y _=>(b4 R x).bind λu=>(b4 R y).bind λv=>rr P op t x y u v
 | .unOp op _ x=>(b4 R x).bind (iG op)
 | .convert s d x=>(b4 R x).bind (pP P s d)
 | .makeInterface t x=>(b4 R x).bind (mE P t)
 | .makeFunc fn f c=>(hQ R f.toList).bind λfs=>(hQ R c.toList).bind λcs=>D (.func fn fs cs)
 | .slice t x fZ e g=>(b4 R x).bind λv=>(k4 R fZ).bind λl=>(k4 R e).bind λh=>(k4 R g).bind λm=>hD P t v l h m
 | .fieldAddr t x f=>(b4 R x).bind λv=>bN P t v f
 | .field t x f=>(b4 R x).bind λv=>nm P t v f
 | .indexAddr t x i=>(b4 R x).bind λu=>(b4 R i).bind λv=>cm P t u v
 | .index t x i=>(b4 R x).bind λu=>(b4 R i).bind λv=>ou P t u v
 | .extract x i=>(b4 R x).bind λv=>jD v i
 | .typeAssert x _ t ok=>(b4 R x).bind (pN P t ok)
 | .call c=>match c.callee with
  | .builtin b=>(hQ R c.args.toList).bind (bL P .empty b c.argTypes.toList)
  |_=>I
 |_=>I
def gb{s:Sem Value}{x:Value}{w a:World}(h:s.run P w= .ok x a):(do pure (.value (<-s)):Sem Next).run P w= .ok (.value x) a:=by
 simp[h]
def BG{s:Sem Unit}{w a:World}(h:s.run P w= .ok () a):(do s;pure .skip:Sem Next).run P w= .ok .skip a:=by
 simp[h]
def Rel.empty(ρ:Env)(w:World)(n:Nat):Rel ρ ⟨.leaf,n⟩ w:=by
 have:∀l,(⟨.leaf,n⟩:ad).get l=none:=λl=>by unfold ad.get;split<;>first|exact bu.qd _|rfl
 refine⟨λl _ _ _ h=> ?_,λl _ h=> ?_,λl _ _ _ h=> ?_,λl a _ _ h=> ?_,λl _ _ _ h=> ?_⟩
 ·rw[this]at h;cases h
 ·rw[this]at h;cases h
 ·rw[this]at h;cases h
 ·rcases h with⟨_,_,h⟩|⟨_,h⟩|⟨_,_,_,h⟩<;>(rw[this]at h;cases h)
 ·rw[this]at h;cases h
def EM(e:Rel ρ H w){b:Builtin}{ts:List TypeId}{ak:List ae}{v:ae}{xs:List Value}(h:bL P H b ts ak=D v)(d:bO ρ ak xs)(ty:TypeId)(cs:Array Bool):
  ∃x,(builtin b ts.toArray ty cs xs.toArray).run P w= .ok (.value x) w/\bp ρ v x:=by
 unfold bL at h;split at h
 ·cases d with|cons _ x _ _ af ah=>
  cases ah;obtain⟨r,a,c⟩:=NF e ty h af;exact⟨r,gb a,c⟩
 ·cases d with|cons _ x _ _ af ah=>
  cases ah with|cons _ y _ _ an aM=>
  cases aM;obtain⟨r,a,c⟩:=NN (P:=P) ts.toArray ty h af an w;exact⟨r,gb a,c⟩
 ·cases d with|cons _ x _ _ af ah=>
  cases ah with|cons _ y _ _ an aM=>
  cases aM;obtain⟨r,a,c⟩:=NQ (P:=P) ts.toArray ty h af an w;exact⟨r,gb a,c⟩
 ·cases d with|cons _ x _ _ af ah=>
  cases ah;obtain⟨r,a,c⟩:=Nn (P:=P) ty h af w;exact⟨r,gb a,c⟩
 ·cases h
def map_toArray{α β:Type}(f:α->β)(xs:Array α):xs.map f=(xs.toList.map f).toArray:=by cases xs;simp
def wB{o:Oper}{c:Call}{b:Builtin}(aR:o.op= .call c)(aq:c.callee= .builtin b)(w:World):
  (execOp a.eval o).run P w=(builtin b c.argTypes o.type (c.args.map λ | .const _=>C|_=>Z) (c.args.map a.eval)).run P w:=by
 unfold execOp;rw[aR];simp only[resolve,aq];rfl
def Oa{o:Oper}{v:ae}(h:iE P o.op R=D v)(au:dX ρ R a)(w:World):∃x,(execOp a.eval o).run P w= .ok (.value x) w/\bp ρ v x:=by
 unfold iE at h;split at h
 ·rename_i x aR;exact⟨_,by unfold execOp;rw[aR];rfl,dJ au h⟩
 ·rename_i x aR;exact⟨_,by unfold execOp;rw[aR];rfl,dJ au h⟩
 ·rename_i c x y aR;split at h
  ·rename_i t a1;have af:=dJ au a1;have ah:a.eval c= .bool t:=by
    generalize a.eval c=z at af;cases af;rfl
   cases t
   ·exact⟨_,by unfold execOp;rw[aR];simp only[ah];rfl,dJ au h⟩
   ·exact⟨_,by unfold execOp;rw[aR];simp only[ah];rfl,dJ au h⟩
  ·cases h
 ·rename_i t db aR;simp only[dY]at h;obtain⟨ak,af,ah⟩:=h;obtain⟨x,e,g⟩:=Nk ah (zy au af) w;refine⟨x,?_,g⟩;unfold execOp;rw[aR];rw[<-map_toArray]at e;exact gb e
 ·rename_i x aR;simp only[dY]at h;obtain⟨u,af,ah⟩:=h;have an:=dJ au af;refine⟨a.eval x,?_,?_⟩
  ·unfold execOp;rw[aR];simp only
   generalize a.eval x=z at an;unfold hC at ah;split at ah
   ·cases an;rfl
   ·cases an;rfl
   ·cases an;rfl
   ·cases ah
  ·unfold hC at ah;split at ah<;>first|(simp only[bb]at ah;subst ah;exact an)|cases ah
 ·rename_i op t x y K aR;simp only[dY]at h;obtain⟨u,af,z,ah,an⟩:=h;obtain⟨r,e,g⟩:=Nh an (dJ au af) (dJ au ah) w;exact⟨r,by unfold execOp;rw[aR];exact gb e,g⟩
 ·rename_i op t x aR;simp only[dY]at h;obtain⟨u,af,an⟩:=h;obtain⟨r,e,g⟩:=Oo an (dJ au af) w;exact⟨r,by unfold execOp;rw[aR];exact gb e,g⟩
 ·rename_i s d x aR;simp only[dY]at h;obtain⟨u,af,an⟩:=h;obtain⟨r,e,g⟩:=Np an (dJ au af) w;exact⟨r,by unfold execOp;rw[aR];exact gb e,g⟩
 ·rename_i t x aR;simp only[dY]at h;obtain⟨u,af,an⟩:=h;have aM:=dJ au af;unfold mE at an;split at an
  ·cases an
  ·rename_i d n hu;simp only[bb]at an;subst an;refine⟨.iface t (a.eval x),?_,.iface _ _ _ aM⟩;unfold execOp;rw[aR];refine gb ?_;unfold Instr.makeInterface;simp only[Sem.run_bind,run_underlying hu,Result.andThen_ok];cases d<;>first|rfl|exact absurd rfl (n _)
  ·cases an
 ·rename_i fn f c aR;simp only[dY,bb]at h;obtain⟨fs,af,cs,ah,rfl⟩:=h;refine⟨_,?_,.func fn fs cs _ _ (oz au af) (oz au ah)⟩;unfold execOp;rw[aR];rw[<-map_toArray,<-map_toArray];rfl
 ·rename_i t x fZ B E aR;simp only[dY]at h;obtain⟨u,af,l,ah,k,an,m,aM,j⟩:=h;obtain⟨r,e,g⟩:=Ol j (dJ au af) (zF au ah) (zF au an) (zF au aM) w;exact⟨r,by unfold execOp;rw[aR];exact gb e,g⟩
 ·rename_i t x f aR;simp only[dY]at h;obtain⟨u,af,an⟩:=h;obtain⟨r,e,g⟩:=Nz an (dJ au af) w;exact⟨r,by unfold execOp;rw[aR];exact gb e,g⟩
 ·rename_i t x f aR;simp only[dY]at h;obtain⟨u,af,an⟩:=h;obtain⟨r,e,g⟩:=NA an (dJ au af) w;exact⟨r,by unfold execOp;rw[aR];exact gb e,g⟩
 ·rename_i t x i aR;simp only[dY]at h;obtain⟨u,af,z,ah,an⟩:=h;obtain⟨r,e,g⟩:=NC an (dJ au af) (dJ au ah) w;exact⟨r,by unfold execOp;rw[aR];exact gb e,g⟩
 ·rename_i t x i aR;simp only[dY]at h;obtain⟨u,af,z,ah,an⟩:=h;obtain⟨r,e,g⟩:=ND an (dJ au af) (dJ au ah) w;exact⟨r,by unfold execOp;rw[aR];exact gb e,g⟩
 ·rename_i x i aR;simp only[dY]at h;obtain⟨u,af,an⟩:=h;obtain⟨r,e,g⟩:=Ny an (dJ au af) w;exact⟨r,by unfold execOp;rw[aR];exact gb e,g⟩
 ·rename_i x H t ok aR;simp only[dY]at h;obtain⟨u,af,an⟩:=h;have aM:=dJ au af;unfold pN at an;split at an
  ·rename_i d G;split at an
   ·rename_i aq;obtain⟨rfl,rfl⟩:=aq;generalize he:a.eval x=z at aM;cases aM with|iface _ _ q j=>
    split at an
    ·cases an
    ·rename_i p n hu;simp only[bb]at an;subst an;refine⟨q,?_,j⟩;unfold execOp;rw[aR];refine gb ?_;rw[he];unfold Instr.typeAssert;simp only[Sem.run_bind,run_underlying hu,Result.andThen_ok];cases p<;>first|exact absurd rfl (n _)|simp
    ·cases an
   ·cases an
  ·cases an
 ·rename_i c aR;split at h
  ·rename_i b aq;simp only[dY]at h;obtain⟨ak,af,ah⟩:=h;obtain⟨x,e,g⟩:=EM (Rel.empty ρ w 0) ah (oz au af) o.type (c.args.map λ | .const _=>C|_=>Z);refine⟨x,?_,g⟩;rw[wB aR aq,map_toArray a.eval];simpa using e
  ·cases h
 ·cases h
def g_(P:Program)(o:Op)(R:ba)(H:ad):Option ae:=
 match o with
 | .load t x=>(b4 R x).bind (aI P H t)
 | .lookup t x k ok=>(b4 R x).bind λu=>(b4 R k).bind λv=>k2 P H t u v ok
 | .convert s d x=>(b4 R x).bind (ry P H s d)
 | .call c=>match c.callee with
  | .builtin b=>(hQ R c.args.toList).bind (bL P H b c.argTypes.toList)
  |_=>I
 |_=>I
def Of(g:Rel ρ H w){o:Oper}{v:ae}(h:g_ P o.op R H=D v)(au:dX ρ R a):∃x,(execOp a.eval o).run P w= .ok (.value x) w/\bp ρ v x:=by
 unfold g_ at h;split at h
 ·rename_i t x aR;simp only[dY]at h;obtain⟨u,af,an⟩:=h;obtain⟨r,e,f⟩:=zr g an (dJ au af);exact⟨r,by unfold execOp;rw[aR];exact gb e,f⟩
 ·rename_i t x k ok aR;simp only[dY]at h;obtain⟨u,af,z,ah,an⟩:=h;obtain⟨r,e,f⟩:=NJ g an (dJ au af) (dJ au ah);exact⟨r,by unfold execOp;rw[aR];exact gb e,f⟩
 ·rename_i s d x aR;simp only[dY]at h;obtain⟨u,af,an⟩:=h;obtain⟨r,e,f⟩:=Nl g an (dJ au af);exact⟨r,by unfold execOp;rw[aR];exact gb e,f⟩
 ·rename_i c aR;split at h
  ·rename_i b aq;simp only[dY]at h;obtain⟨ak,af,ah⟩:=h;obtain⟨x,e,f⟩:=EM g ah (oz au af) o.type (c.args.map λ | .const _=>C|_=>Z);refine⟨x,?_,f⟩;rw[wB aR aq,map_toArray a.eval];simpa using e
  ·cases h
 ·cases h
def ox(P:Program)(o:Op)(R:ba)(H:ad):Option (ae×ad):=
 match o with
 | .alloc t=>uN P H t
 | .box t x=>(b4 R x).bind (pO (j9 P t) H)
 | .buildSlice t n db=>(jU R db.toList).bind (ru P H t n)
 | .makeMap _ I=>D (zs H)
 | .makeSlice t l c=>(b4 R l).bind λu=>(b4 R c).bind λv=>g9 P H t u v
 |_=>I
def NT(i:Rel ρ H w)(az:ρ H.next=I){o:Oper}{v:ae}{H':ad}(h:ox P o.op R H=D (v,H'))(au:dX ρ R a):
  ∃x b d,(execOp a.eval o).run P w= .ok (.value x) b/\bp d v x/\Step ρ H w d H' b:=by
 unfold ox at h;split at h
 ·rename_i t aR;obtain⟨r,b,d,e,f,g⟩:=Nf i az h;exact⟨r,b,d,by unfold execOp;rw[aR];exact gb e,f,g⟩
 ·rename_i t x aR;simp only[dY]at h;obtain⟨u,af,an⟩:=h;obtain⟨r,b,d,e,f,g⟩:=EL (P:=P) i az an (dJ au af) t (λj h=>Ji h);exact⟨r,b,d,by unfold execOp;rw[aR];exact gb e,f,g⟩
 ·rename_i t n db aR;simp only[dY]at h;obtain⟨u,af,an⟩:=h;obtain⟨r,b,d,e,f,g⟩:=Ni i az an (zy au af);refine⟨r,b,d,?_,f,g⟩;unfold execOp;rw[aR];rw[<-map_toArray]at e;exact gb e
 ·rename_i t aR;simp only[bb]at h;obtain⟨r,b,d,e,f,g⟩:=NK (P:=P) i az t;rw[h]at f g;exact⟨r,b,d,by unfold execOp;rw[aR];exact gb e,f,g⟩
 ·rename_i t l c aR;simp only[dY]at h;obtain⟨u,af,z,ah,an⟩:=h;obtain⟨r,b,d,e,f,g⟩:=NM i az an (dJ au af) (dJ au ah);exact⟨r,b,d,by unfold execOp;rw[aR];exact gb e,f,g⟩
 ·cases h
def bn.hG:bn->Bool
 | .row Z _ _=>C
 | .map _=>C
 | .dz _ _ _=>C
 |_=>Z
def bn.hG.ro{b:bn}(h:b.hG=C):b.r2=false:=by
 cases b with
 |row ro e s=>cases ro<;>first|rfl|cases h
 |map es=>rfl
 |dz t e s=>rfl
 |dead=>rfl
 |old=>rfl
def bn.hG.old{b:bn}(h:b.hG=C):b.oP=false:=by cases b<;>first|rfl|cases h
def f_(r:Option (ae×ad))(l:Nat):Option (ae×bn):=
 match r with
 |some (v,H')=>if H'.next=l+1 then(match H'.get l with
  |some b=>if b.hG then D (v,b)else I
  |none=>I)else I
 |none=>I
def VE{r:Option (ae×ad)}{l:Nat}{v:ae}{b:bn}(h:f_ r l=D (v,b)):b.hG=true:=by
 unfold f_ at h;split at h
 ·split at h
  ·split at h
   ·split at h
    ·rename_i a;cases h;exact a
    ·cases h
   ·cases h
  ·cases h
 ·cases h
def kp(P:Program)(o:Op)(R:ba)(l:Nat):Option (ae×bn):=f_ (ox P o R ⟨.leaf,l⟩) l
def ku(P:Program)(o:Op)(R:ba)(H:ad):Option (ae×ad):=
 match o with
 | .store t x y=>(b4 R x).bind λu=>(b4 R y).bind λv=>(cD P H t u v).map λH'=>(.tuple [],H')
 | .mapUpdate t m k x=>(b4 R m).bind λu=>(b4 R k).bind λv=>(b4 R x).bind λz=>(iD P H t u v z).map λH'=>(.tuple [],H')
 | .insert t m k x=>(b4 R m).bind λu=>(b4 R k).bind λv=>(b4 R x).bind λz=>(iD P H t u v z).map λH'=>(.tuple [],H')
 | .call c=>match c.callee,c.args.toList with
  | .builtin .append,[s,x]=>(b4 R s).bind λu=>(b4 R x).bind λv=>ee P H c.argTypes.toList u v
  | .builtin .clear,[x]=>(b4 R x).bind λu=>(uO P H c.argTypes.toList u).map λH'=>(.tuple [],H')
  |_,_=>I
 |_=>I
def Eu(x:Value):Next->Prop
 | .value y=>y=x
 | .skip=>x=undef
 |_=>False
def Ow(f:Rel ρ H w){o:Oper}{v:ae}{H':ad}(h:ku P o.op R H=D (v,H'))(az:H.next<H'.next->ρ H.next=I)(au:dX ρ R a):
  ∃n x b g,(execOp a.eval o).run P w= .ok n b/\Eu x n/\bp g v x/\Step ρ H w g H' b:=by
 unfold ku at h;split at h
 ·rename_i t x y aR;simp only[dY,Option.map_eq_some_iff,cK]at h;obtain⟨u,af,z,ah,H1,an,rfl,rfl⟩:=h;obtain⟨b,d,e⟩:=Om f an (dJ au af) (dJ au ah);exact⟨.skip,undef,b,ρ,by unfold execOp;rw[aR];exact BG d,rfl,.tuple [] [] .nil,e⟩
 ·rename_i t m k x aR;simp only[dY,Option.map_eq_some_iff,cK]at h;obtain⟨u,af,z,ah,y,aM,H1,an,rfl,rfl⟩:=h;obtain⟨b,d,e⟩:=EY f an (dJ au af) (dJ au ah) (dJ au aM);exact⟨.skip,undef,b,ρ,by unfold execOp;rw[aR];exact BG d,rfl,.tuple [] [] .nil,e⟩
 ·rename_i t m k x aR;simp only[dY,Option.map_eq_some_iff,cK]at h;obtain⟨u,af,z,ah,y,aM,H1,an,rfl,rfl⟩:=h;obtain⟨b,d,e⟩:=EY f an (dJ au af) (dJ au ah) (dJ au aM);exact⟨.skip,undef,b,ρ,by unfold execOp;rw[aR];exact BG d,rfl,.tuple [] [] .nil,e⟩
 ·rename_i c aR;split at h
  ·rename_i s x aq i;simp only[dY]at h;obtain⟨u,af,z,ah,an⟩:=h;obtain⟨r,b,g,d,e,j⟩:=Ng f o.type an az (dJ au af) (dJ au ah);refine⟨.value r,r,b,g,?_,rfl,e,j⟩;rw[wB aR aq,map_toArray a.eval,i];refine gb (s:=Builtin.append_ c.argTypes o.type _) ?_;simpa using d
  ·rename_i x aq i;simp only[dY,Option.map_eq_some_iff,cK]at h;obtain⟨u,af,H1,an,rfl,rfl⟩:=h;obtain⟨b,d,e⟩:=No f o.type an (dJ au af);refine⟨.value (.tuple #[]),.tuple #[],b,ρ,?_,rfl,.tuple [] [] .nil,e⟩;rw[wB aR aq,map_toArray a.eval,i];refine gb (s:=Builtin.clear_ c.argTypes o.type _) ?_;simpa using d
  ·cases h
 ·cases h
end
section
variable {P:Program}{ρ:Env}{H:ad}{w:World}{R:ba}{a:Act}
def jR(ρ:Env)(w:World)(loc:Loc):bn->Prop
 | .row ro esz els=>fF ρ w loc ro esz els
 | .map es=>zf ρ w loc es
 | .dz t esz els=>ni ρ w loc t esz els
 | .dead=>True
 | .old _ _ _=>True
def jR.frame{l:Env}{k:World}{loc:Loc}{b:bn}(h:jR ρ w loc b)(hle:ρ.le l)(a:k.heap[loc.block]? =w.heap[loc.block]?):jR l k loc b:=by
 cases b with
 |row ro esz els=>
  obtain⟨d,c,t,m,f,g,o⟩:=h;refine⟨d,c,t,m,by rw[a];exact f,g,λi e he=> ?_⟩;obtain⟨p,q⟩:=o i e he;refine⟨p,λj v n=> ?_⟩;obtain⟨r,x,s,u⟩:=q j v n;exact⟨r,x,s,u.mono hle⟩
 |map es=>
  obtain⟨ents,clock,d,f,g⟩:=h;exact⟨ents,clock,by rw[a];exact d,f.mono hle,g.mono hle⟩
 |dz t esz els=>exact ni.frame h hle a
 |dead=>trivial
 |old=>trivial
def jR.lt{loc:Loc}{b:bn}(h:jR ρ w loc b)(a:b.hG=C):loc.block<w.heap.size:=by
 cases b with
 |row ro esz els=>obtain⟨_,c,t,f,e,_⟩:=h;exact j4 e
 |map es=>obtain⟨ents,clock,d,_⟩:=h;exact j4 d
 |dz t esz els=>exact h.1.lt
 |dead=>cases a
 |old=>cases a
def Rel.grow{n:Env}{m:World}(h:Rel ρ H w)(hle:ρ.le n)(v:w.heap.size<=m.heap.size)(i:∀b,b<w.heap.size->m.heap[b]? =w.heap[b]?):Rel n H m:=by
 refine⟨λl ro esz els e=> ?_,λl es e=> ?_,λl t esz els e=> ?_,λl y loc f af ah u p q=> ?_,λl s esz els e=>(h.old l s esz els e).step hle v (λb r _=>i b r) ?_⟩
 rotate_left 4
 ·rintro b ⟨k,loc,bR,b0,x⟩;left;have d:∃f,ρ k=D f:=by
   rcases bR with⟨esz,els,d⟩|⟨es,d⟩|⟨t,esz,els,d⟩
   ·obtain⟨f,a,_⟩:=h.row _ _ _ _ d;exact⟨_,a⟩
   ·obtain⟨f,a,_⟩:=h.map _ _ d;exact⟨_,a⟩
   ·obtain⟨f,a,_⟩:=h.dz _ _ _ _ d;exact⟨_,a⟩
  obtain⟨f,a⟩:=d;obtain rfl:f=loc:=Option.some.inj ((hle _ _ a).symm.trans b0);exact⟨k,f,bR,a,x⟩
 ·obtain⟨loc,a,g⟩:=h.row l ro esz els e;refine⟨loc,hle _ _ a,?_⟩;have:=g;obtain⟨_,c,t,z,j,_⟩:=this;exact jR.frame (b:= .row ro esz els) g hle (i _ (j4 j))
 ·obtain⟨loc,a,g⟩:=h.map l es e;refine⟨loc,hle _ _ a,?_⟩;have:=g;obtain⟨_,_,j,_⟩:=this;exact jR.frame (b:= .map es) g hle (i _ (j4 j))
 ·obtain⟨loc,a,g⟩:=h.dz l t esz els e;exact⟨loc,hle _ _ a,g.frame hle (i _ g.1.lt)⟩
 ·have o:∀k loc,H.live k->n k=D loc->ρ k=D loc:=λk loc d e=>by
   rcases d with⟨ro,esz,els,d⟩|⟨es,d⟩|⟨t,esz,els,d⟩
   ·obtain⟨f,a,_⟩:=h.row _ _ _ _ d;rw[hle _ _ a]at e;rw[a];exact e
   ·obtain⟨f,a,_⟩:=h.map _ _ d;rw[hle _ _ a]at e;rw[a];exact e
   ·obtain⟨f,a,_⟩:=h.dz _ _ _ _ d;rw[hle _ _ a]at e;rw[a];exact e
  exact h.apart l y loc f af ah u (o _ _ af.live p) (o _ _ ah q)
def Rel.AR(h:Rel ρ H w){l:Nat}(al:H.live l):∃loc,ρ l=D loc/\loc.block<w.heap.size:=by
 rcases al with⟨ro,esz,els,a⟩|⟨es,a⟩|⟨t,esz,els,a⟩
 ·obtain⟨loc,b,_,c,t,f,d,_⟩:=h.row _ _ _ _ a;exact⟨loc,b,j4 d⟩
 ·obtain⟨loc,b,_,_,d,_⟩:=h.map _ _ a;exact⟨loc,b,j4 d⟩
 ·obtain⟨loc,b,e⟩:=h.dz _ _ _ _ a;exact⟨loc,b,e.1.lt⟩
def NV{o:Oper}{l:Nat}{v:ae}{b:bn}(h:kp P o.op R l=D (v,b))(au:dX ρ R a)(az:ρ l=I)(w:World):
  ∃x d e loc,(execOp a.eval o).run P w= .ok (.value x) d/\bp e v x/\ρ.le e/\(∀k,k≠l->e k=ρ k)/\e l=D loc/\w.heap.size<=loc.block/\b.hG=C/\jR e d loc b/\
   d.os=w.os/\d.tape=w.tape/\d.output=w.output/\w.heap.size<=d.heap.size/\∀k,k<w.heap.size->d.heap[k]? =w.heap[k]? :=by
 unfold kp f_ at h;split at h
 ·rename_i B H' q;split at h
  ·rename_i aH;split at h
   ·rename_i b' f;split at h
    ·rename_i g;simp only[bb,cK]at h;obtain⟨rfl,rfl⟩:=h;obtain⟨x,d,e,n,p,c⟩:=NT (Rel.empty ρ w l) az q au;have j:∀k,¬d_ ρ ⟨.leaf,l⟩ k:=by
      rintro k ⟨y,loc,af,_,_⟩;have s:(⟨.leaf,l⟩:ad).get y=none:=by unfold ad.get;split<;>first|exact bu.qd _|rfl
      rcases af with⟨_,_,h⟩|⟨_,h⟩|⟨_,_,_,h⟩<;>(rw[s]at h;cases h)
     have u:H'.rw l:=by
      cases b' with
      |row ro esz els=>cases ro with
       |true=>cases g
       |false=>exact .inl ⟨_,_,f⟩
      |map es=>exact .inr (.inl ⟨_,f⟩)
      |dz t esz els=>exact .inr (.inr ⟨_,_,_,f⟩)
      |dead=>cases g
      |old=>cases g
     have r:∃loc,e l=D loc/\jR e d loc b':=by
      cases b' with
      |row ro esz els=>exact c.rel.row _ _ _ _ f
      |map es=>exact c.rel.map _ _ f
      |dz t esz els=>exact c.rel.dz _ _ _ _ f
      |dead=>cases g
      |old=>cases g
     obtain⟨loc,m,z⟩:=r;refine⟨x,d,e,loc,n,p,c.le,λk i=>c.keep k ?_,m,?_,g,z,c.os,c.tape,c.output,c.size,λk i=>c.frame k i (j k)⟩
     ·rw[aH];show k<l\/_;omega
     ·exact(c.own loc.block ⟨l,loc,u,m,rfl⟩).resolve_left (j _)
    ·cases h
   ·cases h
  ·cases h
 ·cases h
structure fx(ρ0:Env)(H0:ad)(w0:World)(N:Nat)(iV:Nat->Option bn)(ρ:Env)(H:ad)(w:World):Prop where
 sA:Rel ρ0 H0 w0
 le:ρ0.le ρ
 next:H0.next<=H.next
 keep:∀l,l<H0.next\/N<=l->ρ l=ρ0 l
 rel:Rel ρ H w
 os:w.os=w0.os
 tape:w.tape=w0.tape
 output:w.output=w0.output
 size:w0.heap.size<=w.heap.size
 frame:∀b,b<w0.heap.size->¬d_ ρ0 H0 b->w.heap[b]? =w0.heap[b]?
 own:∀b,d_ ρ H b->d_ ρ0 H0 b\/w0.heap.size<=b
 ro:∀l esz els,H.get l=some (.row true esz els)->H0.get l=some (.row true esz els)
 olds:uH ρ0 H0 w0 ρ H
 sl:∀k s esz els loc l b a,H.get k=some (.old s esz els)->ρ k=some loc->iV l=some b->ρ l=some a->loc.block≠a.block
 fresh:∀l,H.next<=l->l<N->iV l=none->ρ l=none
 jq:∀l b,iV l=some b->H.next<=l/\l<N/\b.hG=true/\∃loc,ρ l=some loc/\jR ρ w loc b/\w0.heap.size<=loc.block/\¬d_ ρ H loc.block
 sep:∀l c b b' loc a,iV l=some b->iV c=some b'->l≠c->ρ l=some loc->ρ c=some a->loc.block≠a.block
variable {ρ0:Env}{H0:ad}{w0:World}{N:Nat}{iV:Nat->Option bn}
def fx.start(h:Rel ρ0 H0 w0)(az:Ev ρ0 H0.next N):fx ρ0 H0 w0 N (λ_=>I) ρ0 H0 w0:=
 ⟨h,ρ0.le_refl,bC _,λ_ _=>rfl,h,rfl,rfl,rfl,bC _,λ_ _ _=>rfl,λ_ h=> .inl h,λ_ _ _ h=>h,.same λ_ _ _ _ h=>h,λ_ _ _ _ _ _ _ _ _ _ h=>by simp at h,λl a b _=>az l a b,λ_ _ h=>by simp at h,λ_ _ _ _ _ _ h=>by simp at h⟩
def fx.done(m:fx ρ0 H0 w0 N iV ρ H w)(a:H.next=N):Step ρ0 H0 w0 ρ H w:=
 ⟨m.le,m.next,λl al=>m.keep l (by rw[<-a];exact al),m.rel,m.os,m.tape,m.output,m.size,m.frame,m.own,m.ro,m.olds⟩
def fx.step{K:Env}{H':ad}{G:World}(m:fx ρ0 H0 w0 N iV ρ H w)(s:Step ρ H w K H' G)(M:H'.next<=N)(Q:∀l b,iV l=D b->H'.next<=l):fx ρ0 H0 w0 N iV K H' G where
 sA:=m.sA
 le:=Env.le_trans m.le s.le
 next:=Nat.le_trans m.next s.next
 keep:=λl al=>(s.keep l (al.imp (λh=>Nat.lt_of_lt_of_le h m.next) (λh=>Nat.le_trans M h))).trans (m.keep l al)
 rel:=s.rel
 os:=s.os.trans m.os
 tape:=s.tape.trans m.tape
 output:=s.output.trans m.output
 size:=Nat.le_trans m.size s.size
 frame:=λb n aH=>by
  rw[s.frame b (Nat.lt_of_lt_of_le n m.size) (λaR=>(m.own b aR).elim aH (λhle=>aa)),m.frame b n aH]
 own:=λb n=>(s.own b n).elim (λaR=>m.own b aR) (λhle=> .inr (Nat.le_trans m.size hle))
 ro:=λl esz els e=>m.ro l esz els (s.ro l esz els e)
 olds:=λl v esz els e=>by
  rcases s.olds l v esz els e with⟨s1,u,t,g⟩|⟨loc,g,i⟩
  ·exact(m.olds l s1 u t g).imp id λ⟨loc,i,j⟩=>⟨loc,s.le _ _ i,j⟩
  ·exact .inr ⟨loc,g,i.elim (λj=>m.own _ j) λj=> .inr (Nat.le_trans m.size j)⟩
 sl:=λk v esz els loc l b y e g h i=>by
  obtain⟨_,_,o,B,d,p,_,q⟩:=m.jq l b h;obtain rfl:B=y:=Option.some.inj ((s.le _ _ d).symm.trans i);rcases s.olds k v esz els e with⟨s1,u,t,r⟩|⟨z,r,f⟩
  ·obtain⟨R,f,_⟩:=m.rel.old _ _ _ _ r;obtain rfl:R=loc:=Option.some.inj ((s.le _ _ f).symm.trans g);exact m.sl k s1 u t _ l b _ r f h d
  ·obtain rfl:z=loc:=Option.some.inj (r.symm.trans g);rcases f with f|f
   ·exactλheq=>q (heq▸f)
   ·have:=p.lt o;omega
 fresh:=λl a b c=>by rw[s.keep l (.inr a)];exact m.fresh l (Nat.le_trans s.next a) b c
 jq:=λl b h=>by
  obtain⟨U,S,o,loc,d,p,T,q⟩:=m.jq l b h;have O:=p.lt o;refine⟨Q l b h,S,o,loc,s.le _ _ d,p.frame s.le (s.frame _ O q),T,λaR=> ?_⟩;rcases s.own _ aR with h|h
  ·exact q h
  ·omega
 sep:=λl x b b' loc y h bY P e L=>by
  obtain⟨_,_,_,z,d,_⟩:=m.jq l b h;obtain⟨_,_,_,B,E,_⟩:=m.jq x b' bY;have af:=s.le _ _ d;rw[e]at af;cases af;have ah:=s.le _ _ E;rw[L]at ah;cases ah;exact m.sep l x b b' _ _ h bY P d E
def fx.early{i:Env}{g:World}{l:Nat}{b:bn}{loc:Loc}(m:fx ρ0 H0 w0 N iV ρ H w)(al:H.next<=l)(U:l<N)(ak:iV l=I)
  (hle:ρ.le i) (t:∀k,k≠l->i k=ρ k) (v:i l=D loc) (W:w.heap.size<=loc.block) (ae:b.hG=C) (V:jR i g loc b) (aa:g.os=w.os) (ag:g.tape=w.tape) (ab:g.output=w.output)
  (K:w.heap.size<=g.heap.size) (z:∀k,k<w.heap.size->g.heap[k]? =w.heap[k]?):fx ρ0 H0 w0 N (λk=>if k=l then D b else iV k) i H g:=by
 have hold:∀k d,H.live k->i k=D d->ρ k=D d:=λk d t e=>by
  obtain⟨x,f,_⟩:=m.rel.AR t;have:=hle _ _ f;rw[e]at this;cases this;exact f
 have B:∀k,d_ i H k->d_ ρ H k:=by
  rintro k ⟨L,d,af,ah,an⟩;exact⟨L,d,af,hold _ _ af.live ah,an⟩
 have ad:∀k,d_ ρ H k->k<w.heap.size:=by
  rintro k ⟨L,d,af,ah,an⟩;obtain⟨x,f,G⟩:=m.rel.AR af.live;rw[ah]at f;cases f;rw[<-an];exact G
 refine⟨m.sA,Env.le_trans m.le hle,m.next,λk h=> ?_,m.rel.grow hle K z,aa.trans m.os,ag.trans m.tape,ab.trans m.output,Nat.le_trans m.size K,λk af ah=> ?_,
  λk h=>m.own k (B k h),m.ro,λk s esz els e=>(m.olds k s esz els e).imp id λ⟨loc,p,T⟩=>⟨loc,hle _ _ p,T⟩,λk s esz els x E j M e S h p=> ?_,λk af ah an=> ?_,λk b' h=> ?_,λk q j y x M h bY Y e r=> ?_⟩
 ·rw[t k (by have:=m.next;omega)];exact m.keep k h
 ·rw[z k (Nat.lt_of_lt_of_le af m.size)];exact m.frame k af ah
 ·obtain⟨O,Q,am,_⟩:=m.rel.old _ _ _ _ e;obtain rfl:O=x:=Option.some.inj ((hle _ _ Q).symm.trans S);by_cases a:E=l
  ·subst a;rw[v]at p;cases p;omega
  ·simp only[a,if_false]at h;obtain⟨_,_,_,P,c,_⟩:=m.jq E j h;obtain rfl:P=M:=Option.some.inj ((hle _ _ c).symm.trans p);exact m.sl k s esz els _ E j _ e Q h c
 ·by_cases a:k=l
  ·subst a;simp at an
  ·simp only[a,if_false]at an;rw[t k a];exact m.fresh k af ah an
 ·by_cases a:k=l
  ·subst a;simp only[if_true,bb]at h;subst h;exact⟨al,U,ae,loc,v,V,Nat.le_trans m.size W,λaR=>by have:=ad _ (B _ aR);omega⟩
  ·simp only[a,if_false]at h;obtain⟨f,G,n,d,c,o,ai,aj⟩:=m.jq k b' h;exact⟨f,G,n,d,hle _ _ c,o.frame hle (z _ (o.lt n)),ai,λaR=>aj (B _ aR)⟩
 ·by_cases a:k=l
  ·by_cases u:q=l
   ·omega
   ·subst a;simp only[u,if_false]at bY;obtain⟨_,_,n,d,c,o,_,_⟩:=m.jq q y bY;have:=hle _ _ c;rw[r]at this;cases this;rw[v]at e;cases e;have:=o.lt n;omega
  ·by_cases u:q=l
   ·subst u;simp only[a,if_false]at h;obtain⟨_,_,n,d,c,o,_,_⟩:=m.jq k j h;have:=hle _ _ c;rw[e]at this;cases this;rw[v]at r;cases r;have:=o.lt n;omega
   ·simp only[a,if_false]at h;simp only[u,if_false]at bY;obtain⟨_,_,_,O,c,_⟩:=m.jq k j h;obtain⟨_,_,_,P,R,_⟩:=m.jq q y bY;have af:=hle _ _ c;rw[e]at af;cases af;have ah:=hle _ _ R;rw[r]at ah;cases ah;exact m.sep k q j y _ _ h bY Y c R
def fx.Ms{b:bn}(m:fx ρ0 H0 w0 N iV ρ H w)(B:iV H.next=D b):fx ρ0 H0 w0 N (λk=>if k=H.next then I else iV k) ρ (H.push b) w:=by
 obtain⟨_,ae,q,loc,f,E,U,V⟩:=m.jq _ _ B;have G:∀k,(H.push b).rw k->k≠H.next->H.rw k:=λk h c=>by simpa [ad.rw,ad.dO c]using h
 have O:∀k,(H.push b).live k->k≠H.next->H.live k:=λk h c=>by simpa [ad.live,ad.dO c]using h
 have K:∀k a,H.live k->ρ k=D a->a.block≠loc.block:=by
  intro k a c e heq;by_cases au:H.rw k
  ·exact V ⟨k,a,au,e,heq⟩
  ·rcases c with⟨ro,esz,els,c⟩|c
   ·cases ro with
    |false=>exact au (.inl ⟨_,_,c⟩)
    |true=>
     have T:=m.ro _ _ _ c;obtain⟨ag,o,r⟩:=m.sA.AR (.inl ⟨_,_,_,T⟩);have:=m.le _ _ o;rw[e]at this;cases this;omega
   ·exact au (.inr c)
 have z:∀k,d_ ρ (H.push b) k->d_ ρ H k\/k=loc.block:=by
  rintro k ⟨d,a,af,ah,an⟩;by_cases al:d=H.next
  ·subst al;rw[f]at ah;cases ah;exact .inr an.symm
  ·exact .inl ⟨d,a,G _ af al,ah,an⟩
 have L:b.oP=false:=by cases b<;>first|rfl|cases q
 refine⟨m.sA,m.le,by have:=m.next;simp;omega,m.keep,⟨λl ro esz els h=> ?_,λl es h=> ?_,λl t esz els h=> ?_,λl d j n h bY y e i=> ?_,λl s esz els h=> ?_⟩,m.os,m.tape,m.output,m.size,m.frame,
  λk h=> ?_,λl esz els h=>m.ro l esz els (ad.BA (bn.hG.ro q) l esz els h),λk s esz els e=>m.olds k s esz els (ad.o1 L k s esz els e),λk s esz els j M x n e R h S=> ?_,λl af ah an=> ?_,λl b' h=> ?_,λl d x P j n h bY y e i=> ?_⟩
 ·by_cases al:l=H.next
  ·subst al;rw[ad.a_]at h;simp only[bb]at h;subst h;exact⟨loc,f,E⟩
  ·rw[ad.dO al]at h;exact m.rel.row _ _ _ _ h
 ·by_cases al:l=H.next
  ·subst al;rw[ad.a_]at h;simp only[bb]at h;subst h;exact⟨loc,f,E⟩
  ·rw[ad.dO al]at h;exact m.rel.map _ _ h
 ·by_cases al:l=H.next
  ·subst al;rw[ad.a_]at h;simp only[bb]at h;subst h;exact⟨loc,f,E⟩
  ·rw[ad.dO al]at h;exact m.rel.dz _ _ _ _ h
 ·by_cases al:l=H.next
  ·by_cases g:d=H.next
   ·omega
   ·subst al;rw[f]at e;cases e;exactλheq=>K d n (O _ bY g) i heq.symm
  ·by_cases g:d=H.next
   ·subst g;rw[f]at i;cases i;exact K l j (G _ h al).live e
   ·exact m.rel.apart l d j n (G _ h al) (O _ bY g) y e i
 ·by_cases al:l=H.next
  ·subst al;rw[ad.a_]at h;rw[Option.some.inj h]at q;cases q
  ·rw[ad.dO al]at h;obtain⟨a,o,W,r⟩:=m.rel.old _ _ _ _ h;refine⟨a,o,W,r.imp id λu=>⟨u.1,λv=> ?_⟩⟩;rcases z _ v with p|p
   ·exact u.2 p
   ·exact m.sl l s esz els _ _ _ _ h o B f p
 ·rcases z k h with h|rfl
  ·exact m.own k h
  ·exact .inr U
 ·have Q:=ad.o1 L _ _ _ _ e;by_cases al:M=H.next
  ·simp[al]at h
  ·simp only[al,if_false]at h;exact m.sl k s esz els _ M x _ Q R h S
 ·simp only[ad.dm]at af;have al:l≠H.next:=aa
  simp only[al,if_false]at an;exact m.fresh l aa ah an
 ·by_cases al:l=H.next
  ·simp[al]at h
  ·simp only[al,if_false]at h;obtain⟨o,r,u,a,v,p,Y,ab⟩:=m.jq l b' h;refine⟨by simp;omega,r,u,a,v,p,Y,λaR=> ?_⟩;rcases z _ aR with bY|bY
   ·exact ab bY
   ·exact m.sep l H.next b' b a loc h B al v f bY
 ·by_cases al:l=H.next
  ·simp[al]at h
  ·by_cases g:d=H.next
   ·simp[g]at bY
   ·simp only[al,if_false]at h;simp only[g,if_false]at bY;exact m.sep l d x P j n h bY y e i
end
def k3(P:Program)(H:ad)(r:ae)(name:String):Option (Nat×ae):=
 match r with
 | .iface t v=>(match P.info? t with
  |some i=>(match i.methods.find? (·.name==name)with
   |some m=>(match m.path.toList,m.func,P.underlying t with
    |[],D (f,C),D (.pointer _)=>D (f,v)
    |[],D (f,Z),D (.pointer e)=>(match v with
     | .ptr .. =>(aI P H e v).bind λu=>D (f,u)
     |_=>I)
    |_,_,_=>I)
   |none=>I)
  |none=>I)
 |_=>I
def Kw{P:Program}{w:World}{n:Nat}{t:TypeId}{v:Value}{name:String}{i:TypeInfo}{m:Method}{f:FuncId}{b:Bool}(c:P.info? t=D i)(hm:i.methods.find? (·.name==name)=D m)(a:m.path.toList=[])(az:m.func=D (f,b)){x:Value}
  (aA:(receiverAt t (.val v) b (D ((name.splitOn ".").getLastD name))).run P w= .ok x w):(method (n+1) t v name).run P w= .ok (f,x) w:=by
 have d:m.path.isEmpty=true:=by simpa using a
 have e:(typeInfo t).run P w= .ok i w:=by simp[typeInfo,c]
 unfold method;simp only[Sem.run_bind,e,Result.andThen_ok,hm,a,follow,Sem.run_pure,az,d,if_true,aA]
def NP{P:Program}{ρ:Env}{H:ad}{w:World}(y:Rel ρ H w){r u:ae}{r':Value}{name:String}{f:Nat}(h:k3 P H r name=D (f,u))(au:bp ρ r r')(args:Array Value):
  ∃n,bp ρ u n/\(callMethod r' name args).run P w=(callFunc f (#[n]++args)).run P w:=by
 unfold k3 at h;split at h
 ·rename_i t v;cases au with|iface _ _ o b=>
  split at h
  ·rename_i i g;split at h
   ·rename_i m hm;have d:P.types.size+Made.depth=(P.types.size+99)+1:=rfl;split at h
    ·rename_i a az hu;simp only[bb,cK]at h;obtain⟨rfl,rfl⟩:=h;refine⟨o,b,?_⟩;simp only[callMethod,Sem.run_bind,run_program,Result.andThen_ok,d];rw[Kw (x:=o) g hm a az (by simp only[receiverAt,Sem.run_bind,run_underlying hu,Result.andThen_ok,Place.get,Sem.run_pure])];rfl
    ·rename_i e a az hu;split at h
     ·rename_i l j c;simp only[dY,bb,cK]at h;obtain⟨B,af,rfl,rfl⟩:=h;obtain⟨x,p,q⟩:=zr y af b;cases b with|ptr _ _ _ loc al=>
      refine⟨x,q,?_⟩;have s:(loadVar e ⟨loc.block,loc.off+j*loc.esz+c,I⟩).run P w= .ok x w:=by simpa [Instr.loadAt,Instr.sureAddr]using p
      have z:∀k:String,(Builtin.ssaWrapNilChk_ #[t] t #[.pointer (D ⟨loc.block,loc.off+j*loc.esz+c,I⟩),strVal "",strVal k]).run P w= .ok (.pointer (D ⟨loc.block,loc.off+j*loc.esz+c,I⟩)) w:=λk=>rfl
      simp only[callMethod,Sem.run_bind,run_program,Result.andThen_ok,d];rw[Kw (x:=x) g hm a az (by simp only[receiverAt,Sem.run_bind,run_underlying hu,Result.andThen_ok,Place.get,Sem.run_pure,z,asAddr,s])];rfl
     ·cases h
    ·cases h
   ·cases h
  ·cases h
 ·cases h
def mC(P:Program)(H:ad)(R:ba)(c:Call):Option (Nat×List ae):=
 match c.callee with
 | .value f=>match b4 R f with
  |some (.func (.func g) first captured)=>match hQ R c.args.toList with
   |some ak=>D (g,first++ak++captured)
   |none=>I
  |_=>I
 | .invoke r name=>match b4 R r with
  |some v=>match k3 P H v name,hQ R c.args.toList with
   |some (g,u),D ak=>D (g,u::ak)
   |_,_=>I
  |none=>I
 |_=>I
inductive K where
 |skip
 |pure (v:ae)
 |read (v:ae)
 |new (v:ae) (b:bn)
 |cN (v:ae) (H:ad)
def K.val:K->ae
 | .skip=> .tuple []
 | .pure v=>v
 | .read v=>v
 | .new v _=>v
 | .cN v _=>v
def K.heap(H:ad):K->ad
 | .new _ b=>H.push b
 | .cN _ H'=>H'
 |_=>H
def K.eQ:K->Bool
 | .new _ _=>C
 | .cN _ _=>C
 |_=>Z
abbrev aw:=Nat->List ae->ad->Option (ae×ad)
def l7:Option ae->Option K
 |some v=>D (.pure v)
 |none=>I
def kz:Option ae->Option K
 |some v=>D (.read v)
 |none=>I
def r6:Option (ae×bn)->Option K
 |some (v,b)=>D (.new v b)
 |none=>I
def jH(H:ad):Option (ae×ad)->Option K
 |some (v,H')=>if H.next<=H'.next then D (.cN v H')else I
 |none=>I
inductive cB where
 |pure|read|both|new|write|call
def cls:Op->cB
 | .load .. => .read
 | .lookup .. => .read
 | .alloc _=> .new
 | .box .. => .new
 | .buildSlice .. => .new
 | .makeMap .. => .new
 | .makeSlice .. => .new
 | .store .. => .write
 | .mapUpdate .. => .write
 | .insert .. => .write
 | .convert .. => .both
 | .call c=>match c.callee with
  | .builtin .append=> .write
  | .builtin .clear=> .write
  | .builtin _=> .both
  |_=> .call
 |_=> .pure
def g2(P:Program)(call:aw)(o:Op)(R:ba)(H:ad):Option K:=
 match cls o with
 | .pure=>l7 (iE P o R)
 | .read=>kz (g_ P o R H)
 | .both=>match iE P o R with
  |some v=>D (.pure v)
  |none=>kz (g_ P o R H)
 | .new=>r6 (kp P o R H.next)
 | .write=>jH H (ku P o R H)
 | .call=>match o with
  | .call c=>match mC P H R c with
   |some (g,ak)=>jH H (call g ak H)
   |none=>I
  |_=>I
def abd{P:Program}{call:aw}{o:Op}{R:ba}{H:ad}{v:ae}{b:bn}(h:g2 P call o R H=D (.new v b)):b.hG=true:=by
 unfold g2 at h;split at h
 ·cases au:iE P o R<;>rw[au]at h<;>simp[l7]at h
 ·cases au:g_ P o R H<;>rw[au]at h<;>simp[kz]at h
 ·split at h
  ·cases h
  ·cases au:g_ P o R H<;>rw[au]at h<;>simp[kz]at h
 ·unfold r6 at h;split at h
  ·rename_i aH;cases h;exact VE aH
  ·cases h
 ·unfold jH at h;split at h
  ·split at h<;>cases h
  ·cases h
 ·split at h
  ·split at h
   ·unfold jH at h;split at h
    ·split at h<;>cases h
    ·cases h
   ·cases h
  ·cases h
def oN(o:Op):Bool:=match cls o with
 | .new=>C
 | .write=>C
 | .call=>C
 |_=>Z
def aa9{P:Program}{call:aw}{o:Op}{R:ba}{H:ad}{k:K}(h:g2 P call o R H=D k)(a:k.eQ=C):oN o=true:=by
 unfold g2 at h;unfold oN;split at h
 ·unfold l7 at h;split at h
  ·simp only[bb]at h;subst h;cases a
  ·cases h
 ·unfold kz at h;split at h
  ·simp only[bb]at h;subst h;cases a
  ·cases h
 ·split at h
  ·simp only[bb]at h;subst h;cases a
  ·unfold kz at h;split at h
   ·simp only[bb]at h;subst h;cases a
   ·cases h
 ·rename_i aq;rw[aq]
 ·rename_i aq;rw[aq]
 ·rename_i aq;rw[aq]
def mx(P:Program)(call:aw)(o:Op)(R:ba)(H:ad):K->Prop
 | .skip=>False
 | .pure v=>iE P o R=D v
 | .read v=>g_ P o R H=D v
 | .new v b=>kp P o R H.next=D (v,b)
 | .cN v H'=>H.next<=H'.next/\(ku P o R H=D (v,H')\/∃c g ak,o= .call c/\mC P H R c=D (g,ak)/\call g ak H=D (v,H'))
def aba{P:Program}{call:aw}{o:Op}{R:ba}{H:ad}{k:K}(h:g2 P call o R H=D k):mx P call o R H k:=by
 unfold g2 at h;split at h
 ·unfold l7 at h;split at h
  ·rename_i v a;simp only[bb]at h;subst h;exact a
  ·cases h
 ·unfold kz at h;split at h
  ·rename_i v a;simp only[bb]at h;subst h;exact a
  ·cases h
 ·split at h
  ·rename_i v a;simp only[bb]at h;subst h;exact a
  ·unfold kz at h;split at h
   ·rename_i v a;simp only[bb]at h;subst h;exact a
   ·cases h
 ·unfold r6 at h;split at h
  ·rename_i v b a;simp only[bb]at h;subst h;exact a
  ·cases h
 ·unfold jH at h;split at h
  ·rename_i v H' a;split at h
   ·rename_i aH;simp only[bb]at h;subst h;exact⟨aH,.inl a⟩
   ·cases h
  ·cases h
 ·split at h
  ·rename_i c _;split at h
   ·rename_i g ak aq;unfold jH at h;split at h
    ·rename_i v H' a;split at h
     ·rename_i aH;simp only[bb]at h;subst h;exact⟨aH,.inr ⟨c,g,ak,rfl,aq,a⟩⟩
     ·cases h
    ·cases h
   ·cases h
  ·cases h
section congr
variable {P:Program}{R a7:ba}
def oy:∀{xs:List Operand},(∀x∈xs,b4 R x=b4 a7 x)->hQ R xs=hQ a7 xs
 |[],_=>rfl
 |x::xs,h=>by
  simp only[hQ,h x (by simp),oy (xs:=xs) λy a=>h y (by simp[a])]
def zx:∀{xs:List (Nat×Operand)},(∀x∈xs.map (·.2),b4 R x=b4 a7 x)->jU R xs=jU a7 xs
 |[],_=>rfl
 |(i,x)::xs,h=>by
  simp only[jU,h x (by simp),zx (xs:=xs) λy a=>h y (by simp at a ⊢;exact .inr a)]
def zE{x:Option Operand}(h:∀y,x=D y->b4 R y=b4 a7 y):k4 R x=k4 a7 x:=by
 cases x with
 |none=>rfl
 |some x=>simp only[k4,h x rfl]
def N_{o:Op}(h:∀x∈o.operands,b4 R x=b4 a7 x):iE P o R=iE P o a7:=by
 cases o<;>simp only[iE,Op.operands]at h ⊢ <;>first
  |rfl
  |(simp at h;simp[h];done)
  |skip
 ·rename_i t db;rw[zx λx aA=>h x (by simpa using aA)]
 ·rename_i fn f c;rw[oy λx aA=>h x (by simp at aA ⊢;exact .inl aA),oy (xs:=c.toList) λx aA=>h x (by simp at aA ⊢;exact .inr aA)]
 ·rename_i t x fZ d e;rw[h x (by simp),zE (x:=fZ) λy a=>h y (by simp[a]),zE (x:=d) λy a=>h y (by simp[a]),zE (x:=e) λy a=>h y (by simp[a])]
 ·rename_i c;cases aq:c.callee with
  |builtin b=>
   simp only[Call.operands,aq]at h ⊢;rw[oy λx aA=>h x (by simpa using aA)]
  |value f=>rfl
  |invoke r m=>rfl
def E8{o:Op}{H:ad}(h:∀x∈o.operands,b4 R x=b4 a7 x):g_ P o R H=g_ P o a7 H:=by
 cases o<;>simp only[g_,Op.operands]at h ⊢ <;>first
  |rfl
  |(simp at h;simp[h];done)
  |skip
 ·rename_i c;cases aq:c.callee with
  |builtin b=>
   simp only[Call.operands,aq]at h ⊢;rw[oy λx aA=>h x (by simpa using aA)]
  |value f=>rfl
  |invoke r m=>rfl
def NS{o:Op}{H:ad}(h:∀x∈o.operands,b4 R x=b4 a7 x):ox P o R H=ox P o a7 H:=by
 cases o<;>simp only[ox,Op.operands]at h ⊢ <;>first
  |rfl
  |(simp at h;simp[h];done)
  |skip
 ·rename_i t n db;rw[zx λx aA=>h x (by simpa using aA)]
 ·rename_i t r;cases r<;>rfl
def NU{o:Op}{l:Nat}(h:∀x∈o.operands,b4 R x=b4 a7 x):kp P o R l=kp P o a7 l:=by
 unfold kp;rw[NS h]
def Ov{o:Op}{H:ad}(h:∀x∈o.operands,b4 R x=b4 a7 x):ku P o R H=ku P o a7 H:=by
 cases o<;>simp only[ku,Op.operands]at h ⊢ <;>first
  |rfl
  |(simp at h;simp[h];done)
  |skip
 ·rename_i c;cases aq:c.callee with
  |builtin b=>
   simp only[Call.operands,aq]at h ⊢;cases a:c.args.toList with
   |nil=>cases b<;>rfl
   |cons s r=>
    cases r with
    |nil=>
     have af:s∈c.args.toList:=by simp[a]
     cases b<;>first
      |rfl
      |(simp only;rw[h s (by simpa using af)])
    |cons x r=>
     cases r with
     |nil=>
      have af:s∈c.args.toList:=by simp[a]
      have ah:x∈c.args.toList:=by simp[a]
      cases b<;>first
       |rfl
       |(simp only;rw[h s (by simpa using af),h x (by simpa using ah)])
     |cons y r=>cases b<;>rfl
  |value f=>rfl
  |invoke r m=>rfl
def Nm{c:Call}{H:ad}(h:∀x∈c.operands,b4 R x=b4 a7 x):mC P H R c=mC P H a7 c:=by
 unfold mC;cases aq:c.callee with
 |builtin b=>rfl
 |value f=>
  simp only[Call.operands,aq]at h ⊢;rw[h f (by simp),oy λx aA=>h x (by simp at aA ⊢;exact .inr aA)]
 |invoke r m=>
  simp only[Call.operands,aq]at h ⊢;rw[h r (by simp),oy λx aA=>h x (by simp at aA ⊢;exact .inr aA)]
def mx.congr{call:aw}{o:Op}{H:ad}{k:K}(h:∀x∈o.operands,b4 R x=b4 a7 x)(a:mx P call o R H k):mx P call o a7 H k:=by
 cases k with
 |skip=>exact a
 |pure v=>exact(N_ h).symm.trans a
 |read v=>exact(E8 h).symm.trans a
 |new v b=>exact(NU h).symm.trans a
 |cN v H'=>
  obtain⟨af,ah|⟨c,g,ak,rfl,ah,an⟩⟩:=a
  ·exact⟨af,.inl ((Ov h).symm.trans ah)⟩
  ·exact⟨af,.inr ⟨c,g,ak,rfl,(Nm h).symm.trans ah,an⟩⟩
end congr
def nj(P:Program)(m:Sem Next)(w:World)(next:Value->World->Prop):Prop:=
 match m.run P w with
 | .ok (.value x) a=>next x a
 | .ok (.enter f args) a=>Calls P f args a λ
  | .returned x,b=>next x b
  |_,_=>False
 |_=>False
def gL(E:Env)(P:Program)(g:Nat)(args:List ae)(H:ad)(v:ae)(H':ad):Prop:=∀(ρ:Env) (w:World) (xs:List Value),Rel ρ H w->iu E ρ H.next H'.next->bO ρ args xs->H.next<=H'.next->∀next:Value->World->Prop,(∀x a b,bp b v x->Step ρ H w b H' a->next x a)->nj P (callFunc g xs.toArray) w next
def ed(E:Env)(P:Program)(call:aw):Prop:=∀g args H v H',call g args H=D (v,H')->gL E P g args H v H'
section
variable {E:Env}{P:Program}{call:aw}{ρ:Env}{H H':ad}{w:World}{R:ba}{a:Act}{o:Oper}{v:ae}{jy:Act->World->Prop}{Q:Exit->Act->World->Prop}
def JW(h:iE P o.op R=D v)(au:dX ρ R a)(d:∀x,bp ρ v x->jy (a.put o.dst x) w):o.wp P a w jy Q:=by
 obtain⟨x,b,c⟩:=Oa h au w;unfold Oper.wp;rw[b];exact d x c
def J9(d:Rel ρ H w)(h:g_ P o.op R H=D v)(au:dX ρ R a)(e:∀x,bp ρ v x->jy (a.put o.dst x) w):o.wp P a w jy Q:=by
 obtain⟨x,b,c⟩:=Of d h au;unfold Oper.wp;rw[b];exact e x c
def Jd{l:Nat}{b:bn}(h:kp P o.op R l=D (v,b))(au:dX ρ R a)(az:ρ l=I)
  (y:∀x c d loc,bp d v x->ρ.le d->(∀k,k≠l->d k=ρ k)->d l=D loc->w.heap.size<=loc.block->b.hG=C->jR d c loc b->
   c.os=w.os->c.tape=w.tape->c.output=w.output->w.heap.size<=c.heap.size->(∀k,k<w.heap.size->c.heap[k]? =w.heap[k]?)->jy (a.put o.dst x) c):o.wp P a w jy Q:=by
 obtain⟨x,c,d,loc,e,m,n,p,q,r,s,t,u,f,g,i,j⟩:=NV h au az w;unfold Oper.wp;rw[e];exact y x c d loc m n p q r s t u f g i j
def Gt(M:ed E P call)(l:Rel ρ H w)(az:iu E ρ H.next H'.next)(h:mx P call o.op R H (.cN v H'))(au:dX ρ R a)
  (m:∀x b i,bp i v x->Step ρ H w i H' b->jy (a.put o.dst x) b):o.wp P a w jy Q:=by
 obtain⟨aH,af|⟨c,g,ak,aq,ah,an⟩⟩:=h
 ·obtain⟨n,x,b,i,O,j,K,L⟩:=Ow l af (az.new _ (bC _)) au;unfold Oper.wp;rw[O];unfold Eu at j;split at j
  ·subst j;exact m _ b i K L
  ·subst j;exact m _ b i K L
  ·exact j.elim
 ·unfold mC at ah;split at ah
  ·rename_i f s;split at ah
   ·rename_i q first captured U
    split at ah
    ·rename_i Y y;simp only[bb,cK]at ah;obtain⟨rfl,rfl⟩:=ah;have aM:=dJ au U;have r:=oz au y;generalize he:a.eval f=z at aM;cases aM with|func _ _ _ S N B G=>
     have d:=M _ _ _ _ _ an ρ w _ l az ((B.append r).append G) aH (λx b=>jy (a.put o.dst x) b) (λx b i=>m x b i);have t:(execOp a.eval o).run P w=(callFunc q ((S++c.args.toList.map a.eval++N).toArray)).run P w:=by
      unfold execOp;rw[aq];simp only[resolve,s,he,Deferred.ofValue,pure_bind,invoke]
      congr 2
      rw[map_toArray a.eval];simp
     unfold Oper.wp;rw[t];unfold nj at d;split at d
     ·rename_i e;rw[e];exact d
     ·rename_i e;rw[e];refine Calls.mono d λp aa k=> ?_
      cases p<;>first|exact k|exact k.elim
     ·exact d.elim
    ·cases ah
   ·cases ah
  ·rename_i rv name s;split at ah
   ·rename_i v0 V;split at ah
    ·rename_i q u Y hm y;simp only[bb,cK]at ah;obtain⟨rfl,rfl⟩:=ah;have aM:=dJ au V;have r:=oz au y;obtain⟨W,B,G⟩:=NP l hm aM (c.args.toList.map a.eval).toArray;have d:=M _ _ _ _ _ an ρ w _ l az (.cons _ _ _ _ B r) aH (λx b=>jy (a.put o.dst x) b) (λx b i=>m x b i);have t:(execOp a.eval o).run P w=(callFunc q ((W::c.args.toList.map a.eval).toArray)).run P w:=by
      unfold execOp;rw[aq];simp only[resolve,s,pure_bind,invoke];rw[map_toArray a.eval];have T:(#[a.eval rv]++(c.args.toList.map a.eval).toArray)[0]? =D (a.eval rv):=by simp
      have af:(#[a.eval rv]++(c.args.toList.map a.eval).toArray).extract 1 (#[a.eval rv]++(c.args.toList.map a.eval).toArray).size=(c.args.toList.map a.eval).toArray:=by
       apply Array.ext';simp;exact List.take_of_length_le (by simp)
      rw[T,af];simp only
      rw[G];simp
     unfold Oper.wp;rw[t];unfold nj at d;split at d
     ·rename_i e;rw[e];exact d
     ·rename_i e;rw[e];refine Calls.mono d λp aa k=> ?_
      cases p<;>first|exact k|exact k.elim
     ·exact d.elim
    ·cases ah
   ·cases ah
  ·cases ah
end
def j0(acc:List Nat):List Edge->Nat
 |[]=>0
 |e::es=>if Region.binds .any e then 2^e.on|||(acc[e.on]?.getD 0|||j0 acc es)else j0 acc es
def kC:List Oper->List Nat->List Nat
 |[],acc=>acc
 |o::os,acc=>kC os (acc++[j0 acc o.after.toList])
def b9(ops:Array Oper):List Nat:=kC ops.toList []
def ca(ms:List Nat)(j i:Nat):Bool:=(ms[i]?.getD 0).testBit j
def IP:∀(os pre:List Oper) (acc:List Nat),acc.length=pre.length->(∀i o,pre[i]? =D o->acc[i]? =D (j0 (acc.take i) o.after.toList))->
  ∀i o,(pre++os)[i]? =D o->(kC os acc)[i]? =D (j0 ((kC os acc).take i) o.after.toList)
 |[],pre,acc,al,h,i,o,aR=>by simpa [kC]using h i o (by simpa using aR)
 |p::os,pre,acc,al,h,i,o,aR=>by
  unfold kC;refine IP os (pre++[p]) _ (by simp[al]) (λj q a=> ?_) i o (by simpa using aR);rcases Nat.lt_or_ge j pre.length with c|b
  ·rw[List.getElem?_append_left c]at a;rw[List.getElem?_append_left aa,h j q a,List.take_append_of_le_length aa]
  ·rw[List.getElem?_append_right b]at a;have:j=pre.length:=by
    have:=(List.getElem?_eq_some_iff.1 a).1;simp at this;omega
   subst this;simp at a;subst a;rw[List.getElem?_append_right aa,<-al];simp
def vS{ops:Array Oper}{i:Nat}{o:Oper}(h:ops[i]? =D o):(b9 ops)[i]? =D (j0 ((b9 ops).take i) o.after.toList):=
 IP ops.toList [] [] rfl (by simp) i o (by simpa using h)
def vf{acc:List Nat}{e:Edge}:∀{es:List Edge},e∈es->Region.binds .any e=C->(j0 acc es).testBit e.on=C
 |[],h,_=>by simp at h
 |d::es,h,a=>by
  unfold j0;rcases List.mem_cons.1 h with rfl|h
  ·rw[if_pos a];simp[Nat.testBit_two_pow_self]
  ·split
   ·simp[vf h a]
   ·exact vf h a
def ve{acc:List Nat}{j:Nat}:∀{es:List Edge},(j0 acc es).testBit j=C->∃e∈es,Region.binds .any e=C/\(j=e.on\/(acc[e.on]?.getD 0).testBit j=C)
 |[],h=>by simp[j0]at h
 |d::es,h=>by
  unfold j0 at h;split at h
  ·rename_i a;simp only[Nat.testBit_or,Bool.or_eq_true]at h;rcases h with h|h|h
   ·refine⟨d,by simp,a,.inl ?_⟩;rw[Nat.testBit_two_pow]at h;simpa using(of_decide_eq_true h).symm
   ·exact⟨d,by simp,a,.inr h⟩
   ·obtain⟨e,af,ah,an⟩:=ve h;exact⟨e,by simp[af],ah,an⟩
  ·obtain⟨e,af,ah,an⟩:=ve h;exact⟨e,by simp[af],ah,an⟩
def kZ(L:Nat->Bool)(o:Oper):Prop:=∀e∈o.after,Region.binds .any e=C->L e.on=C
def rh(ops:Array Oper)(L:Nat->Bool):Prop:=∀i o,ops[i]? =D o->L i=C->kZ L o
def l2{ops:Array Oper}{L:Nat->Bool}(aq:rh ops L):∀(i:Nat) (o:Oper),ops[i]? =D o->kZ L o->∀j,ca (b9 ops) j i=C->L j=true:=by
 intro i
 induction i using Nat.strongRecOn with
 |_ i c=>
  intro o aR hw j a;unfold ca at a;rw[vS aR]at a;simp only[Option.getD_some]at a;obtain⟨e,af,ah,an⟩:=ve a;have d:=hw e (by simpa using af) ah;rcases an with rfl|an
  ·exact d
  ·rcases Nat.lt_or_ge e.on i with f|k
   ·rw[List.getElem?_take_of_lt f]at an;cases b:ops[e.on]? with
    |none=>
     cases hm:(b9 ops)[e.on]? with
     |none=>rw[hm]at an;simp at an
     |some m=>
      exfalso;have hlen:∀(os:List Oper) (acc:List Nat),(kC os acc).length=acc.length+os.length:=by
       intro os
       induction os with
       |nil=>intro acc;simp[kC]
       |cons o os c=>intro acc;simp[kC,c];omega
      have aM:=(List.getElem?_eq_some_iff.1 hm).1;have g:(b9 ops).length=ops.size:=by unfold b9;rw[hlen];simp
      have h:ops.size<=e.on:=by simpa using b
      omega
    |some fp=>exact c e.on f fp b (aq _ _ b d) j an
   ·rw[List.getElem?_eq_none (by simp;omega)]at an;simp at an
def OL{ops:Array Oper}{i:Nat}{o:Oper}(aR:ops[i]? =D o){e:Edge}(he:e∈o.after)(a:Region.binds .any e=C):ca (b9 ops) e.on i=true:=by
 unfold ca;rw[vS aR];exact vf (by simpa using he) a
def je(ops:Array Oper)(R:ba)(o:Oper):Bool:=
 match o.guard with
 |none=>C
 |some (j,want)=>match ops[j]? with
  |some q=>(match q.dst with
   |some d=>(match R.get d with
    | .bool b=>b==want
    |_=>Z)
   |none=>Z)
  |none=>Z
def Fj{ρ:Env}{ops:Array Oper}{R:ba}{a:Act}(au:dX ρ R a)(o:Oper):Region.wanted o (yielded ops a.tmps)=je ops R o:=by
 unfold Region.wanted je;cases aP:o.guard with
 |none=>rfl
 |some p=>
  obtain⟨j,want⟩:=p;simp only
  unfold yielded;cases e:ops[j]? with
  |none=>simp
  |some q=>
   cases b:q.dst with
   |none=>simp[b]
   |some d=>
    simp only[Option.bind_some,b];have af:=au.get d;rw[Array.getD_eq_getD_getElem?]at af;cases a1:a.tmps[d]? with
    |none=>
     rw[a1]at af;simp only[Option.getD_none]at af;generalize c:R.get d=v at af;cases v<;>first|rfl|(exfalso;cases af)
    |some x=>
     rw[a1]at af;simp only[Option.getD_some]at af;generalize c:R.get d=v at af;cases af<;>first|rfl|(simp;done)
def Ou{ops:Array Oper}{R a7:ba}{o:Oper}(h:∀d∈o.looksAt ops,R.get d=a7.get d):je ops R o=je ops a7 o:=by
 unfold je;cases aP:o.guard with
 |none=>rfl
 |some p=>
  obtain⟨j,want⟩:=p;simp only
  cases b:ops[j]? with
  |none=>rfl
  |some q=>
   cases a:q.dst with
   |none=>simp[a]
   |some d=>
    simp only[a];rw[h d (by simp[Oper.looksAt,aP,b,a])]
def Oq{ops:Array Oper}{R a7:ba}{o:Oper}(h:∀d∈o.looksAt ops,R.get d=a7.get d):∀x∈o.op.operands,b4 R x=b4 a7 x:=by
 intro x aA;cases x with
 |tmp t=>
  simp only[b4];rw[h t ?_];unfold Oper.looksAt;refine List.mem_append.2 (.inl ?_);rw[List.mem_filterMap];exact⟨.tmp t,by simpa using aA,rfl⟩
 |const v=>rfl
 |global g=>rfl
 |func f=>rfl
structure bA where
 i:Nat
 o:Oper
 R:ba
 k:K
def fi(P:Program)(call:aw)(ops:Array Oper)(o:Oper)(R:ba)(H:ad):Option K:=
 match je ops R o with
 |true=>g2 P call o.op R H
 |false=>D .skip
def TX{P:Program}{call:aw}{ops:Array Oper}{o:Oper}{R:ba}{H:ad}{v:ae}{b:bn}(h:fi P call ops o R H=D (.new v b)):b.hG=true:=by
 unfold fi at h;split at h
 ·exact abd h
 ·cases h
def canRun(P:Program)(call:aw)(ops:Array Oper):List Nat->ba->ad->Option (List bA×ba×ad)
 |[],R,H=>D ([],R,H)
 |i::is,R,H=>match ops[i]? with
  |none=>I
  |some o=>match fi P call ops o R H with
   |none=>I
   |some k=>match R.put o.dst k.val with
    |none=>I
    |some a7=>match canRun P call ops is a7 (k.heap H)with
     |none=>I
     |some (T,bf,cV)=>D (⟨i,o,R,k⟩::T,bf,cV)
def cz:List bA->ad->ad
 |[],H=>H
 |t::ts,H=>cz ts (t.k.heap H)
def lf(A B:List bA)(H:ad):cz (A++B) H=cz B (cz A H):=by
 induction A generalizing H with
 |nil=>rfl
 |cons t A a=>simp[cz,a]
def fq(L:Nat->Bool)(d:Nat):List bA->ae->ae
 |[],v=>v
 |t::ts,v=>fq L d ts (if L t.i=C/\t.o.dst=D d then t.k.val else v)
def mU(L:Nat->Bool)(d:Nat)(A B:List bA)(v:ae):fq L d (A++B) v=fq L d B (fq L d A v):=by
 induction A generalizing v with
 |nil=>rfl
 |cons t A a=>simp[fq,a]
def sy{L L':Nat->Bool}{d:Nat}:∀{A:List bA} {v:ae},(∀t∈A,t.o.dst=D d->L t.i=L' t.i)->fq L d A v=fq L' d A v
 |[],_,_=>rfl
 |t::A,v,h=>by
  simp only[fq];have:(L t.i=C/\t.o.dst=D d)↔(L' t.i=C/\t.o.dst=D d):=by
   constructor
   ·rintro⟨af,ah⟩;exact⟨by rw[<-h t (by simp) ah];exact af,ah⟩
   ·rintro⟨af,ah⟩;exact⟨by rw[h t (by simp) ah];exact af,ah⟩
  simp only[this];exact sy λu hu=>h u (by simp[hu])
def sz{L:Nat->Bool}{d:Nat}:∀{A:List bA} {v:ae},(∀t∈A,t.o.dst=D d->L t.i=Z)->fq L d A v=v
 |[],_,_=>rfl
 |t::A,v,h=>by
  simp only[fq];rw[if_neg (by rintro⟨af,ah⟩;rw[h t (by simp) ah]at af;cases af)];exact sz λu hu=>h u (by simp[hu])
def kv{P:Program}{call:aw}{ops:Array Oper}:∀{is:List Nat} {R:ba} {H:ad} {T:List bA} {bf:ba} {cV:ad},canRun P call ops is R H=D (T,bf,cV)->
  T.map (·.i)=is/\cV=cz T H/\bf.size=R.size/\∀d,bf.get d=fq (λ_=>C) d T (R.get d)
 |[],R,H,T,bf,cV,h=>by
  simp only[canRun,bb,cK]at h;obtain⟨rfl,rfl,rfl⟩:=h;exact⟨rfl,rfl,rfl,λ_=>rfl⟩
 |i::is,R,H,T,bf,cV,h=>by
  simp only[canRun]at h;split at h
  ·cases h
  ·rename_i o aR;split at h
   ·cases h
   ·rename_i k m;split at h
    ·cases h
    ·rename_i a7 a;split at h
     ·cases h
     ·rename_i l j g bY;simp only[bb,cK]at h;obtain⟨rfl,rfl,rfl⟩:=h;obtain⟨b,c,e,f⟩:=kv bY;refine⟨by simp[b],c,by rw[e,ba.size_put a],λd=> ?_⟩;rw[f d,ba.qe a d];simp[fq]
def u4{P:Program}{call:aw}{ops:Array Oper}:∀{A:List bA} {is:List Nat} {R:ba} {H:ad} {t:bA} {B:List bA} {bf:ba} {cV:ad},canRun P call ops is R H=D (A++t::B,bf,cV)->
  ops[t.i]? =D t.o/\(∀d,t.R.get d=fq (λ_=>C) d A (R.get d))/\fi P call ops t.o t.R (cz A H)=D t.k/\(∀d,t.o.dst=D d->d<R.size)
 |A,[],R,H,t,B,bf,cV,h=>by
  simp only[canRun,bb,cK]at h;have:=h.1;simp at this
 |A,i::is,R,H,t,B,bf,cV,h=>by
  simp only[canRun]at h;split at h
  ·cases h
  ·rename_i o aR;split at h
   ·cases h
   ·rename_i k j;split at h
    ·cases h
    ·rename_i a7 a;split at h
     ·cases h
     ·rename_i n m l bY;simp only[bb,cK]at h;obtain⟨af,rfl,rfl⟩:=h;cases A with
      |nil=>
       simp only[List.nil_append,List.cons.injEq]at af;obtain⟨rfl,rfl⟩:=af;refine⟨aR,λ_=>rfl,j,λd b=> ?_⟩;simp only at b;rw[b]at a;exact ba.JY a
      |cons u A=>
       simp only[List.cons_append,List.cons.injEq]at af;obtain⟨rfl,rfl⟩:=af;obtain⟨c,e,f,g⟩:=u4 bY;refine⟨c,λd=> ?_,f,λd b=>by rw[<-ba.size_put a];exact g d b⟩;rw[e d,ba.qe a d];simp[fq]
def fa:ad->List bA->Prop
 |_,[]=>True
 |H,t::ts=>H.next<=(t.k.heap H).next/\fa (t.k.heap H) ts
def fa.append:∀{A B:List bA} {H:ad},fa H (A++B)->fa H A/\fa (cz A H) B
 |[],_,_,h=>⟨trivial,h⟩
 |_::A,_,_,h=>by
  obtain⟨af,ah⟩:=h;obtain⟨an,aM⟩:=fa.append (A:=A) ah;exact⟨⟨af,an⟩,aM⟩
def fa.le:∀{A:List bA} {H:ad},fa H A->H.next<=(cz A H).next
 |[],_,_=>bC _
 |_::A,_,h=>Nat.le_trans h.1 (fa.le (A:=A) h.2)
def qh{P:Program}{call:aw}{ops:Array Oper}{o:Oper}{R:ba}{H:ad}{k:K}(h:fi P call ops o R H=D k):
  (je ops R o=C/\mx P call o.op R H k)\/(je ops R o=Z/\k= .skip):=by
 unfold fi at h;split at h
 ·rename_i hw;exact .inl ⟨hw,aba h⟩
 ·rename_i hw;simp only[bb]at h;exact .inr ⟨hw,h.symm⟩
def H5{P:Program}{call:aw}{ops:Array Oper}{o:Oper}{R:ba}{H:ad}{k:K}(h:fi P call ops o R H=D k)(a:k.eQ=C):oN o.op=true:=by
 unfold fi at h;split at h
 ·exact aa9 h a
 ·simp only[bb]at h;subst h;cases a
def Au{P:Program}{call:aw}{ops:Array Oper}{o:Oper}{R:ba}{H:ad}{k:K}(h:fi P call ops o R H=D k):H.next<=(k.heap H).next:=by
 rcases qh h with⟨_,h⟩|⟨_,rfl⟩
 ·cases k with
  |cN v H'=>exact h.1
  |new v b=>simp[K.heap]
  |_=>exact bC _
 ·exact bC _
def p0{P:Program}{call:aw}{ops:Array Oper}:∀{is:List Nat} {R:ba} {H:ad} {T:List bA} {bf:ba} {cV:ad},canRun P call ops is R H=D (T,bf,cV)->fa H T
 |[],R,H,T,bf,cV,h=>by
  simp only[canRun,bb,cK]at h;obtain⟨rfl,rfl,rfl⟩:=h;trivial
 |i::is,R,H,T,bf,cV,h=>by
  simp only[canRun]at h;split at h
  ·cases h
  ·rename_i o aR;split at h
   ·cases h
   ·rename_i k a;split at h
    ·cases h
    ·split at h
     ·cases h
     ·rename_i d c b bY;simp only[bb,cK]at h;obtain⟨rfl,rfl,rfl⟩:=h;exact⟨Au a,p0 bY⟩
def dK(L:Nat->Bool):List bA->ad->Nat->Option bn
 |[],_,_=>I
 |t::ts,H,l=>match t.k with
  | .new _ b=>if l=H.next then(if L t.i=C then D b else I)else dK L ts (H.push b) l
  |k=>dK L ts (k.heap H) l
def sq{L:Nat->Bool}:∀{T:List bA} {H:ad} {l:Nat} {b:bn},fa H T->dK L T H l=D b->H.next<=l
 |[],_,_,_,_,h=>by cases h
 |t::ts,H,l,b,hm,h=>by
  unfold dK at h;split at h
  ·rename_i v b' a;split at h
   ·omega
   ·have:=sq (by have:=hm.2;rwa[a]at this) h;simp at this;omega
  ·have af:=hm.1;have:=sq hm.2 h;omega
def so{L L':Nat->Bool}:∀{T:List bA} {H:ad},(∀t∈T,∀v b,t.k= .new v b->L t.i=L' t.i)->dK L T H=dK L' T H
 |[],_,_=>rfl
 |t::ts,H,h=>by
  funext l
  unfold dK;split
  ·rename_i v b a;rw[h t (by simp) v b a,so (T:=ts) (λu hu=>h u (by simp[hu]))]
  ·rw[so (T:=ts) (λu hu=>h u (by simp[hu]))]
def qu{L:Nat->Bool}{t:bA}{ts:List bA}{H:ad}(h:∀v b,t.k≠ .new v b):dK L (t::ts) H=dK L ts (t.k.heap H):=by
 funext l
 show(match t.k with
  | .new _ b=>if l=H.next then(if L t.i=C then D b else I)else dK L ts (H.push b) l
  |k=>dK L ts (k.heap H) l)=_
 split
 ·rename_i v b a;exact absurd a (h v b)
 ·rfl
def JQ{L L':Nat->Bool}{t:bA}{v:ae}{b:bn}(a1:t.k= .new v b)(g:L t.i=Z)(j:L' t.i=C):∀{zC zD:List bA} {H:ad},fa H (zC++t::zD)->
  (∀u∈zC,L u.i=L' u.i)->(∀u∈zD,L u.i=L' u.i)->
  dK L' (zC++t::zD) H=(λk=>if k=(cz zC H).next then D b else dK L (zC++t::zD) H k)/\dK L (zC++t::zD) H (cz zC H).next=I
 |[],zD,H,hm,e,f=>by
  constructor
  ·funext k
   simp only[List.nil_append,cz,dK,a1,g,j,if_true,Bool.false_eq_true,if_false];rw[so (T:=zD) λu hu _ _ _=>f u hu];split<;>rfl
  ·simp[dK,a1,g,cz]
 |c::zC,zD,H,hm,e,f=>by
  obtain⟨af,ah⟩:=hm;obtain⟨a,d⟩:=JQ a1 g j (zC:=zC) (zD:=zD) ah (λu hu=>e u (by simp[hu])) f;by_cases aq:∃m b',c.k= .new m b'
  ·obtain⟨m,b',aq⟩:=aq;have hle:(c.k.heap H).next<=(cz zC (c.k.heap H)).next:=(fa.append ah).1.le
   rw[aq]at a d hle;simp only[K.heap,ad.dm]at hle a d;constructor
   ·funext k
    simp only[List.cons_append,dK,aq,cz,K.heap];rw[<-e c (by simp),a];by_cases l:k=H.next
    ·subst l;simp only[if_true];by_cases aA:H.next=(cz zC (H.push b')).next
     ·omega
     ·simp only[aA,if_false]
    ·simp only[l,if_false];by_cases aA:k=(cz zC (H.push b')).next
     ·simp only[aA,if_true]
     ·simp only[aA,if_false]
   ·simp only[List.cons_append,dK,aq,cz,K.heap];rw[if_neg aa];exact d
  ·have aH:∀v b,c.k≠ .new v b:=λv b h=>aq ⟨v,b,h⟩
   rw[List.cons_append,qu aH,qu aH,cz];exact⟨a,d⟩
