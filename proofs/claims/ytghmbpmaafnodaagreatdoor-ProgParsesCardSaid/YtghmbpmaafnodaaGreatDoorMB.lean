/-
  Texts of one proof, laid together: Fv7 Fv8 Fv9 Fv10 Fv11.
-/
import Derived.Test.YtghmbpmaafnodaaGreatDoorMA
import Derived.Deep.AppendSrc
import Derived.Orders
set_option linter.unusedVariables false
set_option linter.unusedSimpArgs false
namespace Go.gd
section
section
variable {P:Program}{ρ:Env}{H:J}{w:World}
def d8(P:Program)(t:TypeId)(x:I)(f:Nat):Option I:=
 match P.underlying t,x with
 |some (.struct eD),.agg cs=>(match eD[f]? with|some d=>apart P d.type cs d.offset|none=>none)
 |_,_=>none
theorem Z6{t:TypeId}{x v:I}{er:Value}{f:Nat}(h:d8 P t x f=some v)(ag:cW ρ x er)(w:World): ∃r,(Instr.field t er f).run P w= .ok r w/\cW ρ v r:=by
 unfold d8 at h;split at h
 ·rename_i eD cs hu;cases ag with|agg _ xs aS=>
  split at h
  ·rename_i d bd;obtain⟨r,U,aa⟩:=Bh h aS w;exact⟨r,by simp[Instr.field,run_underlying hu,bd,asAgg,U],aa⟩
  ·cases h
 ·cases h
def aE(P:Program)(t:TypeId)(x:I)(f:Nat):Option I:=
 match P.underlying t,x with
 |some (.struct eD),.ptr l i c=>(match eD[f]? with|some d=>(match fs P d.type with|some n=>if n=0 then none else some (.ptr l i (c+d.offset))|none=>none)|none=>none)
 |_,_=>none
theorem ZF{t:TypeId}{x v:I}{er:Value}{f:Nat}(h:aE P t x f=some v)(ag:cW ρ x er)(w:World): ∃r,(Instr.fieldAt t er f).run P w= .ok r w/\cW ρ v r:=by
 unfold aE at h;split at h
 ·rename_i eD l i c hu;cases ag with|ptr _ _ _ loc az=>
  split at h
  ·rename_i d bd;split at h
   ·rename_i n aU;split at h
    ·cases h
    ·rename_i aY;simp only[bF] at h;subst h;refine⟨_,?_,.ptr l i (c+d.offset) loc az⟩;simp[Instr.fieldAt,run_underlying hu,bd,Instr.sureAddr,fieldPlace,run_sizeOf aU,aY,addr_add,Nat.add_assoc]
   ·cases h
  ·cases h
 ·cases h
def dS(P:Program)(t:TypeId)(x l9:I):Option I:=
 match P.underlying t,x,l9 with
 |some (.slice e),.aN l i n esz _,.int _ k=>(match fs P e with|some fY=>if fY=esz/\0<=k/\k<n then some (.ptr l (i+k.toNat) 0) else none|none=>none)
 |some (.array len e),.ptr l i c,.int _ k=>(match fs P e with|some fY=>if 0<=k/\k<len then some (.ptr l i (c+k.toNat*fY)) else none|none=>none)
 |_,_,_=>none
theorem ZG{t:TypeId}{x l9 v:I}{er Fs:Value}(h:dS P t x l9=some v)(ag:cW ρ x er)(be:cW ρ l9 Fs)(w:World): ∃r,(Instr.indexAt t er Fs).run P w= .ok r w/\cW ρ v r:=by
 unfold dS at h;split at h
 ·rename_i e l i n esz cap mE k hu;cases be;cases ag with|aN _ _ _ _ loc a c az aU aS bV=>
  split at h
  ·rename_i fY fO;split at h
   ·rename_i mh;obtain⟨rfl,aY,U⟩:=mh;simp only[bF] at h;subst h;obtain⟨rfl,_⟩:=bV Z;refine⟨_,?_,.ptr l (i+k.toNat) 0 loc az⟩;have aI:loc.off+i*loc.esz+k.toNat*loc.esz=loc.off+(i+k.toNat)*loc.esz+0:=by rw[Nat.add_mul];omega
    simp[Instr.indexAt,asIntOf,run_underlying hu,aY,U,run_sizeOf fO,addr_add]
   ·cases h
  ·cases h
 ·rename_i len e l i c mE k hu;cases be;cases ag with|ptr _ _ _ loc az=>
  split at h
  ·rename_i fY fO;split at h
   ·rename_i mh;obtain⟨aY,U⟩:=mh;simp only[bF] at h;subst h;refine⟨_,?_,.ptr l i (c+k.toNat*fY) loc az⟩;simp[Instr.indexAt,asIntOf,run_underlying hu,Instr.sureAddr,aY,U,run_sizeOf fO,addr_add,Nat.add_assoc]
   ·cases h
  ·cases h
 ·cases h
def h1(P:Program)(t:TypeId)(x l9:I):Option I:=
 match P.underlying t,x,l9 with
 |some .string,.str s,.int _ k=>if 0<=k then(match s[k.toNat]? with|some b=>some (.int .u8 b.toNat)|none=>none) else none
 |some (.array len e),.agg cs,.int _ k=>(match fs P e with|some fY=>if 0<=k/\k<len then apart P e cs (k.toNat*fY) else none|none=>none)
 |_,_,_=>none
theorem acV(s:List UInt8)(k:Nat):(⟨s.toArray⟩:ByteArray)[k]? =s[k]? :=by
 simp only[getElem?,decidableGetElem?];by_cases h:k<s.length
 ·have bZ:k<(⟨s.toArray⟩:ByteArray).size:=by show k<s.toArray.size;simpa using h
  simp[h,bZ];rfl
 ·have bZ: ¬k<(⟨s.toArray⟩:ByteArray).size:=by show ¬k<s.toArray.size;simpa using h
  simp[h,bZ]
theorem Z7{t:TypeId}{x l9 v:I}{er Fs:Value}(h:h1 P t x l9=some v)(ag:cW ρ x er)(be:cW ρ l9 Fs)(w:World): ∃r,(Instr.index t er Fs).run P w= .ok r w/\cW ρ v r:=by
 unfold h1 at h;split at h
 ·rename_i s mE k hu;cases be;cases ag;split at h
  ·rename_i aY;split at h
   ·rename_i b ax;simp only[bF] at h;subst h;refine⟨_,?_,.int _ _⟩;simp only[Instr.index,asIntOf,Sem.run_bind,Sem.run_pure,Result.andThen_ok,run_underlying hu,if_pos aY,acV,ax]
   ·cases h
  ·cases h
 ·rename_i len e cs mE k hu;cases be;cases ag with|agg _ xs aS=>
  split at h
  ·rename_i fY fO;split at h
   ·rename_i mh;obtain⟨r,U,aa⟩:=Bh h aS w;exact⟨r,by simp[Instr.index,asIntOf,run_underlying hu,mh,run_sizeOf fO,U],aa⟩
   ·cases h
  ·cases h
 ·cases h
def hM(x:Option I)(amg y:Nat):Option Nat:=
 match x with
 |none=>some amg
 |some (.int _ k)=>if 0<=k/\k<=y then some k.toNat else none
 |some _=>none
def kj(P:Program)(t:TypeId)(x:I)(lo be re:Option I):Option I:=
 match P.underlying t,x with
 |some .string,.str s=>
  (match re,hM be s.length s.length with
  |none,some h=>(match hM lo 0 h with|some l=>some (.str ((s.drop l).take (h-l)))|none=>none)
  |_,_=>none)
 |some (.slice e),.aN l i n esz cap=>
  (match fs P e,re with
  |some fY,none=>
   if fY=esz then
    (match hM be n (cap.getD n) with
    |some h=>(match hM lo 0 h with|some k=>some (.aN l (i+k) (h-k) esz (cap.map (· -k)))|none=>none)
    |none=>none)
   else none
  |some fY,some m=>
   if fY=esz then
    (match hM (some m) 0 (cap.getD n) with
    |some m=>(match be,hM be 0 m with
     |some _,some h=>(match hM lo 0 h with|some k=>some (.aN l (i+k) (h-k) esz (some (m-k)))|none=>none)
     |_,_=>none)
    |none=>none)
   else none
  |_,_=>none)
 |some (.slice e),.ap=>
  (match fs P e,re with
  |some _,none=>(match hM be 0 0 with
   |some h=>(match hM lo 0 h with|some _=>some .ap|none=>none)
   |none=>none)
  |_,_=>none)
 |_,_=>none
inductive Co(ρ:Env):Option I->Option Value->Prop where
 |none:Co ρ none none
 |some (v:I) (x:Value) (h:cW ρ v x):Co ρ (some v) (some x)
theorem np{v:I}{x:Value}{d y k:Nat}(h:hM (some v) d y=some k)(ag:cW ρ v x)(code:BoundsCode){jj:Nat}(cV:y<=jj)(w:World):
  (Instr.sliceBound x jj code).run P w= .ok k w/\k<=y:=by
 unfold hM at h;split at h
 ·rename_i b0;cases b0
 ·rename_i mE n b0;cases b0;cases ag;split at h
  ·rename_i aS;simp only[bF] at h;subst h;refine⟨?_,Z⟩;simp only[Instr.sliceBound,asIntOf,Sem.run_bind,Sem.run_pure,Result.andThen_ok];rw[if_pos Z];exact Sem.run_pure ..
  ·cases h
 ·cases h
theorem Z0(s:List UInt8)(l h:Nat):(⟨s.toArray⟩:ByteArray).extract l h=⟨((s.drop l).take (h-l)).toArray⟩:=by
 apply ByteArray.ext;simp[ByteArray.data_extract,List.extract_eq_take_drop]
theorem Z8{t:TypeId}{x v:I}{er:Value}{lo be re:Option I}{C7 Aw Io:Option Value}(h:kj P t x lo be re=some v)(ag:cW ρ x er)(ko:Co ρ lo C7)(CW:Co ρ be Aw)(Ii:Co ρ re Io)(w:World):
  ∃r,(Instr.sliceAt t er C7 Aw Io).run P w= .ok r w/\cW ρ v r:=by
 unfold kj at h;split at h
 ·rename_i s hu;cases ag;have fO:(⟨s.toArray⟩:ByteArray).size=s.length:=by show s.toArray.size=_;simp
  split at h
  ·rename_i b0 ax;cases Ii;split at h
   ·rename_i l az;simp only[bF] at h;subst h;refine⟨_,?_,.str _⟩;have aI: ∃m,(Instr.sliceBounds false s.length s.length C7 Aw none).run P w= .ok (l,b0,m) w:=by
     refine⟨s.length,?_⟩;cases CW with
     |none=>
      simp only[hM,bF] at ax;subst ax;cases ko with
      |none=>simp only[hM,bF] at az;subst az;simp[Instr.sliceBounds]
      |some v x bA=>simp[Instr.sliceBounds,(np az bA _ (bN _) w).1]
     |some v x bA=>
      have:=(np (P:=P) ax bA .sliceAlen (bN _) w).1;cases ko with
      |none=>simp only[hM,bF] at az;subst az;simp[Instr.sliceBounds,this]
      |some v x bA=>simp[Instr.sliceBounds,this,(np az bA _ (bN _) w).1]
    obtain⟨m,aI⟩:=aI;simp[Instr.sliceAt,Instr.slice,run_underlying hu,fO,aI,Z0]
   ·cases h
  ·cases h
 ·rename_i e l i n esz cap hu;cases ag with|aN _ _ _ _ loc a c az aU aS bV=>
  have xQ:cap.getD n<=c:=by
   cases wb:cap with
   |none=>exact aU
   |some k=>have:=aS k wb;simp;omega
  split at h
  ·rename_i fY fO;cases Ii;split at h
   ·rename_i Ng;subst Ng;split at h
    ·rename_i b0 ax;split at h
     ·rename_i k ah;simp only[bF] at h;subst h;have aqx:b0<=c:=by
       cases CW with
       |none=>simp only[hM,bF] at ax;omega
       |some v x bA=>have:=(np (P:=P) ax bA .sliceAcap xQ w).2;omega
      have aoh:k<=b0:=by
       cases ko with
       |none=>simp only[hM,bF] at ah;omega
       |some v x bA=>exact(np (P:=P) ah bA .sliceB (bN _) w).2
      have aI:(Instr.sliceBounds true n c C7 Aw none).run P w= .ok (k,b0,c) w:=by
       cases CW with
       |none=>
        simp only[hM,bF] at ax;subst ax;cases ko with
        |none=>simp only[hM,bF] at ah;subst ah;simp[Instr.sliceBounds]
        |some v x bA=>simp[Instr.sliceBounds,(np ah bA _ (bN _) w).1]
       |some v x bA=>
        have:=(np (P:=P) ax bA .sliceAcap xQ w).1;cases ko with
        |none=>simp only[hM,bF] at ah;subst ah;simp[Instr.sliceBounds,this]
        |some v x bA=>simp[Instr.sliceBounds,this,(np ah bA _ (bN _) w).1]
      refine⟨.slice (some (if c=k then a else a.add (k*loc.esz))) (b0-k) (c-k),?_,?_⟩
      ·simp[Instr.sliceAt,Instr.slice,run_underlying hu,aI,run_sizeOf fO];split<;>rfl
      ·refine .aN l (i+k) (b0-k) _ loc _ (c-k) az Z (λm hm=> ?_) (λox=> ?_)
       ·cases wb:cap with
        |none=>rw[wb] at hm;cases hm
        |some q=>rw[wb] at hm;simp at hm;have:=aS q wb;omega
       ·obtain⟨rfl,Cu⟩:=bV Z;rw[if_neg Z,addr_add];refine⟨?_,?_⟩
        ·congr 1;rw[Nat.add_mul];omega
        ·rw[show i+k+(c-k)=i+c by omega];exact Cu
     ·cases h
    ·cases h
   ·cases h
  ·rename_i fY m0 fO;cases Ii with|some _ Io Fa=>
   split at h
   ·rename_i Ng;subst Ng;split at h
    ·rename_i m hm;obtain⟨Zx,ap9⟩:=np (P:=P) hm Fa .slice3Acap xQ w;split at h
     ·rename_i bA b0 ax;cases CW with|some _ x jt=>
      obtain⟨Zw,apV⟩:=np (P:=P) ax jt .slice3B (bN _) w;split at h
      ·rename_i k ah;simp only[bF] at h;subst h;have aoh:k<=b0:=by
        cases ko with
        |none=>simp only[hM,bF] at ah;omega
        |some v x bA=>exact(np (P:=P) ah bA .sliceB (bN _) w).2
       have aI:(Instr.sliceBounds true n c C7 (some x) (some Io)).run P w= .ok (k,b0,m) w:=by
        cases ko with
        |none=>simp only[hM,bF] at ah;subst ah;simp[Instr.sliceBounds,Zx,Zw]
        |some v x bA=>simp[Instr.sliceBounds,Zx,Zw,(np ah bA _ (bN _) w).1]
       refine⟨.slice (some (if m=k then a else a.add (k*loc.esz))) (b0-k) (m-k),?_,?_⟩
       ·simp[Instr.sliceAt,Instr.slice,run_underlying hu,aI,run_sizeOf fO];split<;>rfl
       ·refine .aN l (i+k) (b0-k) _ loc _ (m-k) az Z (λq bi=>by simpa using bi) (λox=> ?_);obtain⟨rfl,Cu⟩:=bV Z;rw[if_neg Z,addr_add];refine⟨?_,?_⟩
        ·congr 1;rw[Nat.add_mul];omega
        ·refine Nat.le_trans (Nat.add_le_add_left (Nat.mul_le_mul_right _ ?_) _) Cu;omega
      ·cases h
     ·cases h
    ·cases h
   ·cases h
  ·cases h
 ·rename_i e hu;cases ag;split at h
  ·rename_i fY fO;cases Ii;split at h
   ·rename_i b0 ax;split at h
    ·rename_i k ah;simp only[bF] at h;subst h;have aoc:b0=0:=by
      cases CW with
      |none=>simp only[hM,bF] at ax;omega
      |some v x bA=>have:=(np (P:=P) ax bA .sliceAcap (bN _) w).2;omega
     subst aoc;have M9:k=0:=by
      cases ko with
      |none=>simp only[hM,bF] at ah;omega
      |some v x bA=>have:=(np (P:=P) ah bA .sliceB (bN _) w).2;omega
     subst M9;refine⟨.slice none 0 0,?_,.ap⟩;have aI:(Instr.sliceBounds true 0 0 C7 Aw none).run P w= .ok (0,0,0) w:=by
      cases CW with
      |none=>
       cases ko with
       |none=>simp[Instr.sliceBounds]
       |some v x bA=>simp[Instr.sliceBounds,(np ah bA _ (bN _) w).1]
      |some v x bA=>
       have:=(np (P:=P) ax bA .sliceAcap (bN _) w).1;cases ko with
       |none=>simp[Instr.sliceBounds,this]
       |some v x bA=>simp[Instr.sliceBounds,this,(np ah bA _ (bN _) w).1]
     simp[Instr.sliceAt,Instr.slice,run_underlying hu,aI,run_sizeOf fO]
    ·cases h
   ·cases h
  ·cases h
 ·cases h
end
end
section
section
variable {P:Program}{ρ:Env}{H:J}{w:World}
theorem PN(c:Array Value): ∀(d:List I) (o:Nat),(∀(j:Nat) (v:I),d[j]? =some v->v.one=true/\ ∃x,c[o+j]? =some x/\cW ρ v x)->
  ∃xs:List Value,dI ρ d xs/\(∀j u,xs[j]? =some u->c[o+j]? =some u)/\ ∀u∈xs,u.oneCell'=true
 |[],_,_=>⟨[],.nil,λj u h=>by simp at h,λu h=>by cases h⟩
 |v::d,o,h=>by
  obtain⟨U,x,ag,bA⟩:=h 0 v rfl;obtain⟨xs,aI,bc,dq⟩:=PN c d (o+1) (λj u bH=>by have:=h (j+1) u (by simpa using bH);rwa[show o+(j+1)=o+1+j by omega] at this);refine⟨x::xs,.cons _ _ _ _ bA aI,?_,?_⟩
  ·intro j u bH;cases j with
   |zero=>simp at bH;subst bH;exact ag
   |succ j=>rw[show o+(j+1)=o+1+j by omega];exact bc j u (by simpa using bH)
  ·intro u hu;rcases List.mem_cons.1 hu with rfl|hu
   ·exact bA.Tl U
   ·exact dq u hu
theorem QY(c:Array Value)(esz:Nat): ∀(els:List (List I)) (o:Nat),(∀(i:Nat) (e:List I),els[i]? =some e->e.length=esz/\ ∀(j:Nat) (v:I),e[j]? =some v->v.one=true/\ ∃x,c[o+i*esz+j]? =some x/\cW ρ v x)->
  ∃xs:List Value,dI ρ els.flatten xs/\(∀j u,xs[j]? =some u->c[o+j]? =some u)/\ ∀u∈xs,u.oneCell'=true
 |[],_,_=>⟨[],by simpa using dI.nil,λj u h=>by simp at h,λu h=>by cases h⟩
 |d::els,o,h=>by
  obtain⟨bd,aS⟩:=h 0 d rfl;obtain⟨dX,bf,a2,a3⟩:=PN c d o (λj v bH=>by simpa using aS j v bH);obtain⟨xs,aI,bc,dq⟩:=QY c esz els (o+esz) (λi e he=>by
   have:=h (i+1) e (by simpa using he);rw[Nat.succ_mul] at this;refine⟨this.1,λj v bH=> ?_⟩;have:=this.2 j v bH;rwa[show o+(i*esz+esz)+j=o+esz+i*esz+j by omega] at this)
  have az:=bf.length;refine⟨dX++xs,by simpa using bf.append aI,?_,?_⟩
  ·intro j u bH;by_cases CY:j<dX.length
   ·rw[List.getElem?_append_left CY] at bH;exact a2 j u bH
   ·rw[List.getElem?_append_right Z] at bH;have:=bc _ u bH;rwa[show o+esz+(j-dX.length)=o+j by omega] at this
  ·intro u hu;rcases List.mem_append.1 hu with hu|hu
   ·exact a3 u hu
   ·exact dq u hu
def pV(H:J)(l i n esz:Nat):Option (List (List I)):=
 match H.get l with
 |some (.row _ qS els)=>if qS=esz/\i+n<=els.length then some ((els.drop i).take n) else none
 |_=>none
theorem Gs{els:List (List I)}{i n k:Nat}{e:List I}(h:((els.drop i).take n)[k]? =some e):els[i+k]? =some e:=by
 rw[List.getElem?_take] at h;split at h
 ·rw[List.getElem?_drop] at h;exact h
 ·cases h
theorem JW(ce:Rel ρ H w){l i n:Nat}{loc:Loc}{bU:List (List I)}(h:pV H l i n loc.esz=some bU)(az:ρ l=some loc):
  bU.length=n/\(∀e∈bU,e.length=loc.esz)/\(∀e∈bU,∀v∈e,v.one=true)/\
  ∃xs:List Value,dI ρ bU.flatten xs/\xs.length=n*loc.esz/\(∀j u,xs[j]? =some u->w.cell? ⟨loc.block,loc.off+i*loc.esz+j,none⟩=some u)/\ ∀u∈xs,u.oneCell'=true:=by
 unfold pV at h;split at h
 ·rename_i ro qS els aZ;split at h
  ·rename_i mh;obtain⟨rfl,hle⟩:=mh;simp only[bF] at h;subst h;obtain⟨dz,dD,_,c,t,ie,ax,_,a8⟩:=ce.row _ _ _ _ aZ;obtain rfl:loc=dz:=Option.some.inj (az.symm.trans dD);have hlen:((els.drop i).take n).length=n:=by simp;omega
   have U: ∀e∈(els.drop i).take n,e.length=loc.esz:=λe he=>by
    obtain⟨k,ah⟩:=List.getElem?_of_mem he;exact(a8 _ e (Gs ah)).1
   have aa: ∀e∈(els.drop i).take n,∀v∈e,v.one=true:=λe he v bA=>by
    obtain⟨k,ah⟩:=List.getElem?_of_mem he;obtain⟨j,bH⟩:=List.getElem?_of_mem bA;exact((a8 _ e (Gs ah)).2 j v bH).1
   refine⟨hlen,U,aa,?_⟩;obtain⟨xs,aI,bc,dq⟩:=QY (ρ:=ρ) c loc.esz ((els.drop i).take n) (loc.off+i*loc.esz) (λk e ah=>by
    have:=a8 _ e (Gs ah);refine⟨this.1,λj v bH=> ?_⟩;have:=this.2 j v bH;rwa[Nat.add_mul,<-Nat.add_assoc] at this)
   refine⟨xs,aI,by rw[<-aI.length,wF U,hlen],λj u bH=> ?_,dq⟩;simp[World.cell?,ax,bc j u bH]
  ·cases h
 ·cases h
def sM(P:Program)(H:J)(nn:TypeId)(esz:Nat)(x:I):Option (List (List I)):=
 match P.underlying nn,x with
 |some (.slice _),.aN l i n qS _=>if qS=esz then pV H l i n esz else none
 |some (.slice _),.ap=>some []
 |some .string,.str s=>if esz=1 then some (s.map λb=>[.int .u8 b.toNat]) else none
 |_,_=>none
theorem ZX(s:List UInt8):dI ρ ((s.map λb=>[I.int .u8 b.toNat]).flatten) (byteCells ⟨s.toArray⟩):=by
 unfold byteCells;show dI ρ _ (s.map _)
 induction s with
 |nil=>exact .nil
 |cons b s aT=>exact .cons _ _ _ _ (.int _ _) aT
theorem aav(ce:Rel ρ H w){nn:TypeId}{esz:Nat}{x:I}{er:Value}{bU:List (List I)}(h:sM P H nn esz x=some bU)(ag:cW ρ x er):
  (∀e∈bU,e.length=esz)/\(∀e∈bU,∀v∈e,v.one=true)/\ ∃news:List Value,dI ρ bU.flatten news/\Src P esz nn er bU.length news w:=by
 unfold sM at h;split at h
 ·rename_i e l i n qS cap hu;split at h
  ·rename_i he;subst he;cases ag with|aN _ _ _ _ loc a c az aU aS bV=>
   obtain⟨U,aa,ae,xs,am,aB,aG,aP⟩:=JW ce h az;refine⟨aa,ae,xs,am,?_⟩;rw[U];refine Src.ofSlice w hu a n c xs aB (λj u bH=> ?_) aP;have ox:0<c:=by
    rcases Nat.eq_zero_or_pos c with aY|aY
    ·have Fc:n=0:=Z;rw[Fc] at aB;have:xs=[]:=List.eq_nil_of_length_eq_zero (by simpa using aB);subst this;simp at bH
    ·exact aY
   obtain⟨rfl,_⟩:=bV ox;rw[addr_add];exact aG j u bH
  ·cases h
 ·rename_i e hu;cases ag;simp only[bF] at h;subst h;exact⟨by simp,by simp,[],by simpa using dI.nil,Src.ofNil w hu 0⟩
 ·rename_i s hu;split at h
  ·rename_i he;subst he;cases ag;simp only[bF] at h;subst h;refine⟨by simp,by simp[I.one],_,ZX s,?_⟩;have:=Src.ofString w hu (⟨s.toArray⟩:ByteArray);have aM:(⟨s.toArray⟩:ByteArray).size=s.length:=by show s.toArray.size=_;simp
   rw[aM] at this;simpa using this
  ·cases h
 ·cases h
def rv(P:Program)(t:TypeId):Option Nat:=(P.info? t).map (·.bytes)
def fQ(P:Program)(H:J)(ts:List TypeId)(s x:I):Option (I×J):=
 match ts with
 |[t,nn]=>
  (match P.underlying t with
  |some (.slice e)=>
   (match fs P e,rv P e,j2 P e with
   |some esz,some p6,some z=>
    (match sM P H nn esz x with
    |some bU=>
     if z.cells.length=esz/\0<esz then
      (match s with
      | .ap=>if bU.length=0 then some (.ap,H) else
       if bU.length*p6<=140737488355328/\bU.length<=9223372036854775807 then some (.aN H.next 0 bU.length esz none,H.push (.row false esz bU)) else none
      | .aN l i n qS cap=>
       if qS=esz then
        if bU.length=0 then some (s,H)
        else if(n+bU.length)*p6<=140737488355328/\n+bU.length<=9223372036854775807 then
         (match pV H l i n esz with
         |some os=>
          if cap.any (· <n+bU.length)=true then some (.aN H.next 0 (n+bU.length) esz none,H.push (.row false esz (os++bU)))
          else if cap=none then
           (match H.get l with
           |some (.row false _ _)=>some (.aN H.next 0 (n+bU.length) esz none,(H.set l .dead).push (.row false esz (os++bU)))
           |_=>none)
          else none
         |none=>none)
        else none
       else none
      |_=>none)
     else none
    |none=>none)
   |_,_,_=>none)
  |_=>none)
 |_=>none
theorem Pn(w:World)(t nn ty e:TypeId)(bz:P.underlying t=some (.slice e)){esz:Nat}(fO:fs P e=some esz)(base:Option Addr)(n c:Nat)(aU:n<=c)(x:Value)(aM:Src P esz nn x 0 [] w):
  (Builtin.append_ #[t,nn] ty #[.slice base n c,x]).run P w= .ok (.slice base n c) w:=by
 have D5:=aM.cells;rcases aM.kind with⟨cN,ah⟩|ah<;>cases base<;>
  simp[Builtin.append_,run_underlying bz,run_underlying ah,run_sizeOf fO,aM.len,aU,D5,storeCells]
theorem Kx(ce:Rel ρ H w)(al:ρ H.next=none){t nn e:TypeId}(ty:TypeId)(bz:P.underlying t=some (.slice e)){esz p6:Nat}{z:I}(fO:fs P e=some esz)(r9:rv P e=some p6)(cn:j2 P e=some z)
  (tg:z.cells.length=esz) (ox:0<esz)
  {bU os:List (List I)} (d1: ∀e∈bU,e.length=esz) (d2: ∀e∈bU,∀v∈e,v.one=true) {news:List Value} (d3:dI ρ bU.flatten news) {er:Value} (aM:Src P esz nn er bU.length news w)
  (cR: ∀e∈os,e.length=esz) (dd: ∀e∈os,∀v∈e,v.one=true) {olds:List Value} (dG:dI ρ os.flatten olds) (base:Option Addr) (n c:Nat) (sd:os.length=n)
  (hold:(Builtin.firstCells esz n (.slice base n c)).run P w.drew= .ok olds.toArray w.drew) (aZ:c<n+bU.length) (ax:(n+bU.length)*p6<=140737488355328) (aqs:n+bU.length<=9223372036854775807):
  ∃r b4 cY,(Builtin.append_ #[t,nn] ty #[.slice base n c,er]).run P w= .ok r b4/\cW cY (.aN H.next 0 (n+bU.length) esz none) r/\Step ρ H w cY (H.push (.row false esz (os++bU))) b4:=by
 unfold j2 at cn;unfold fs at fO;unfold rv at r9;simp only[eW] at cn;obtain⟨i,be,iY,sh,aoL⟩:=cn;rw[be] at fO r9;simp only[Option.map_some,bF] at fO r9;subst fO;subst r9;have wm:=(JN aoL ρ).cells;have uJ:iY.cells.size=i.size:=by have:=wm.length;rw[tg] at this;simpa using this.symm
 have oy:=run_append_grow_src (P:=P) w t nn ty e i iY bz be sh base n c olds hold er bU.length news aM aZ Z (growslice_fits aZ ax);have lm:Rel ρ H w.drew:=ce.drew;have pQ:=F4 (w:=w.drew) lm al (esz:=i.size) (els:=os++bU) (λe he=>(List.mem_append.1 he).elim (cR e) (d1 e)) (λe he=>(List.mem_append.1 he).elim (dd e) (d2 e))
  (xs:=olds++news) (tail:=(Builtin.zeroCells iY.cells (grownCap w (n+bU.length) c e-(n+bU.length))).toList) (by simpa using dG.append d3) e
 have aI:((olds++news)++(Builtin.zeroCells iY.cells (grownCap w (n+bU.length) c e-(n+bU.length))).toList).toArray=(olds++news).toArray++Builtin.zeroCells iY.cells (grownCap w (n+bU.length) c e-(n+bU.length)):=by
  apply Array.ext';simp
 rw[aI] at pQ;refine⟨_,_,_,oy,?_,⟨pQ.le,pQ.next,pQ.bo,pQ.rel,pQ.os,pQ.tape,pQ.output,pQ.size,pQ.frame,pQ.own,pQ.ro⟩⟩;have wg:=grownCap_ge w (n+bU.length) c e;refine cW.aN (ρ:=ρ.iL H.next _) H.next 0 (n+bU.length) none _ _ (grownCap w (n+bU.length) c e) (Env.nq _ _ _) wg (λk ah=>by cases ah) (λ_=>⟨by show(⟨w.heap.size,0,none⟩:Addr)=⟨w.heap.size,0+0*i.size,none⟩;simp,?_⟩)
 have eG:olds.length=n*i.size:=by rw[<-dG.length,wF cR,sd]
 have fA:news.length=bU.length*i.size:=by rw[<-d3.length,wF d1]
 have gS:(Builtin.zeroCells iY.cells (grownCap w (n+bU.length) c e-(n+bU.length))).size=(grownCap w (n+bU.length) c e-(n+bU.length))*i.size:=by rw[size_zeroCells,uJ]
 simp only[Nat.zero_add,List.length_append,eG,fA,Array.length_toList,gS];rw[<-Nat.add_mul,<-Nat.add_mul];exact Nat.mul_le_mul_right _ Z
theorem abM(ce:Rel ρ H w)(al:ρ H.next=none){l i n esz:Nat}{els:List (List I)}(aZ:H.get l=some (.row false esz els)){loc:Loc}(az:ρ l=some loc)(kP:i+n<=els.length)
  {bU:List (List I)} (d1: ∀e∈bU,e.length=esz) (d2: ∀e∈bU,∀v∈e,v.one=true) {news:List Value} (d3:dI ρ bU.flatten news) (Cu:loc.off+(i+n+bU.length)*esz<=loc.size):
  Step ρ H w (ρ.iL H.next ⟨loc.block,loc.off+i*esz,esz,loc.size⟩) ((H.set l .dead).push (.row false esz ((els.drop i).take n++bU))) (w.setCells loc.block (loc.off+(i+n)*esz) news):=by
 have et:=J.aX aZ;obtain⟨dz,dD,_,arr,t,ie,ax,uG,mR⟩:=ce.row _ _ _ _ aZ;obtain rfl:loc=dz:=Option.some.inj (az.symm.trans dD);obtain⟨Hf,LC⟩:=uG rfl;have hle:=Env.BS al ⟨loc.block,loc.off+i*esz,esz,loc.size⟩;have aoo:news.length=bU.length*esz:=by rw[<-d3.length,wF d1]
 obtain⟨s1,s2,iO,qp⟩:=Jv loc.block news (loc.off+(i+n)*esz) w;have DE: ∀k,k≠H.next->k≠l->((H.set l .dead).push (.row false esz ((els.drop i).take n++bU))).get k=H.get k:=λk U aa=>by
  rw[J.gD (by simpa using U),J.get_set_other (Ne.symm aa)]
 have Ed:((H.set l .dead).push (.row false esz ((els.drop i).take n++bU))).get l=some .dead:=by
  rw[J.gD (by simp;omega),J.get_set_same et]
 have KP:((H.set l .dead).push (.row false esz ((els.drop i).take n++bU))).get H.next=some (.row false esz ((els.drop i).take n++bU)):=J.ca (H.set l .dead) _
 have BE: ∀k,((H.set l .dead).push (.row false esz ((els.drop i).take n++bU))).rw k->k≠H.next->H.rw k/\k≠l:=λk h ah=>by
  have iJ:k≠l:=by rintro rfl;rcases h with⟨_,_,h⟩|⟨_,h⟩<;>(rw[Ed] at h;cases h)
  simpa [J.rw,DE k ah iJ,iJ] using h
 have DA: ∀k,((H.set l .dead).push (.row false esz ((els.drop i).take n++bU))).live k->k≠H.next->H.live k/\k≠l:=λk h ah=>by
  have iJ:k≠l:=by rintro rfl;rcases h with⟨_,_,_,h⟩|⟨_,h⟩<;>(rw[Ed] at h;cases h)
  simpa [J.live,DE k ah iJ,iJ] using h
 have GM: ∀k dz,H.live k->k≠l->ρ k=some dz->dz.block≠loc.block:=λk dz h bZ e heq=>
  ce.apart l k loc dz (.inl ⟨_,_,aZ⟩) h (Ne.symm bZ) az e heq.symm
 refine⟨hle,by simp,λk ah=>Env.mb (by simp at ah;omega),⟨?_,?_,?_⟩,s2,iO,qp,Nat.le_of_eq s1.symm,?_,?_,?ro⟩
 case ro=>
  intro k qS mq h;by_cases ah:k=H.next
  ·subst ah;rw[KP] at h;cases h
  ·by_cases iJ:k=l
   ·subst iJ;rw[Ed] at h;cases h
   ·rwa[DE k ah iJ] at h
 ·intro k AK qS mq h;by_cases ah:k=H.next
  ·subst ah;rw[KP] at h;simp only[bF,dY.row.injEq] at h;obtain⟨rfl,rfl,rfl⟩:=h;refine⟨_,Env.nq _ _ _,rfl,_,t,ie,Ju _ _ _ _ _ _ _ ax,λ_=>⟨by rw[Dy];exact Hf,by rw[Dy];exact LC⟩,?_⟩;intro q e he;have akf:((els.drop i).take n).length=n:=by simp;omega
   by_cases bi:q<n
   ·rw[List.getElem?_append_left Z] at he;have l0:=Gs he;obtain⟨a0,bf⟩:=mR _ e l0;refine⟨a0,λj v bH=> ?_⟩;obtain⟨df,x,ag,jt⟩:=bf j v bH;refine⟨df,x,?_,jt.mono hle⟩;have CY:j<esz:=by
     rcases Nat.lt_or_ge j e.length with h|h
     ·omega
     ·rw[List.getElem?_eq_none h] at bH;cases bH
    show(oR arr (loc.off+(i+n)*esz) news)[loc.off+i*esz+q*esz+j]? =some x;rw[Br _ _ _ _ (by have:=DM (n:=esz) (show i+q<i+n by omega);rw[Nat.add_mul] at this;omega)];rw[show loc.off+i*esz+q*esz+j=loc.off+(i+q)*esz+j by rw[Nat.add_mul];omega];exact ag
   ·rw[List.getElem?_append_right Z,akf] at he;refine⟨d1 e (List.mem_of_getElem? he),λj v bH=> ?_⟩;obtain⟨x,ag,jt⟩:=d3.get _ _ (JL d1 he bH);refine⟨d2 e (List.mem_of_getElem? he) v (List.mem_of_getElem? bH),x,?_,jt.mono hle⟩;have aot:q-n<bU.length:=by
     rcases Nat.lt_or_ge (q-n) bU.length with h|h
     ·exact h
     ·rw[List.getElem?_eq_none h] at he;cases he
    have CY:j<esz:=by
     have:=d1 e (List.mem_of_getElem? he);rcases Nat.lt_or_ge j e.length with h|h
     ·omega
     ·rw[List.getElem?_eq_none h] at bH;cases bH
    have dQ:=DM (n:=esz) aot;have sc:(i+n+bU.length)*esz=(i+n)*esz+bU.length*esz:=Nat.add_mul _ _ _;have:=Gt news arr (loc.off+(i+n)*esz) ((q-n)*esz+j) x ag Z;show(oR arr (loc.off+(i+n)*esz) news)[loc.off+i*esz+q*esz+j]? =some x;rw[show loc.off+i*esz+q*esz+j=loc.off+(i+n)*esz+((q-n)*esz+j) by
     have:q*esz=n*esz+(q-n)*esz:=by rw[<-Nat.add_mul];congr 1;omega
     rw[Nat.add_mul];omega]
    exact this
  ·by_cases iJ:k=l
   ·subst iJ;rw[Ed] at h;cases h
   ·rw[DE k ah iJ] at h;obtain⟨dz,dD,aV,c',wD,E0,aJ,bB,bK⟩:=ce.row _ _ _ _ h;have dM:=GM k dz (.inl ⟨_,_,_,h⟩) iJ dD;refine⟨dz,by rw[Env.mb ah];exact dD,aV,c',wD,E0,by rw[yD _ _ _ _ _ dM];exact aJ,bB,?_⟩;intro q e he;obtain⟨a0,bf⟩:=bK q e he;refine⟨a0,λj v bH=> ?_⟩;obtain⟨df,x,ag,jt⟩:=bf j v bH;exact⟨df,x,ag,jt.mono hle⟩
 ·intro k es h;by_cases ah:k=H.next
  ·subst ah;rw[KP] at h;cases h
  ·by_cases iJ:k=l
   ·subst iJ;rw[Ed] at h;cases h
   ·rw[DE k ah iJ] at h;obtain⟨dz,dD,ents,clock,aJ,bB,bK⟩:=ce.map _ _ h;have dM:=GM k dz (.inr ⟨_,h⟩) iJ dD;exact⟨dz,by rw[Env.mb ah];exact dD,ents,clock,by rw[yD _ _ _ _ _ dM];exact aJ,bB.mono hle,bK.mono hle⟩
 ·intro k fF nC oZ U aa dM aI bc;by_cases ah:k=H.next
  ·subst ah;rw[Env.nq] at aI;obtain rfl:=Option.some.inj aI;obtain⟨hq,qc⟩:=DA fF aa (Ne.symm dM);rw[Env.mb (Ne.symm dM)] at bc;exact(GM fF oZ hq qc bc).symm
  ·obtain⟨ft,js⟩:=BE k U ah;rw[Env.mb ah] at aI;by_cases e3:fF=H.next
   ·subst e3;rw[Env.nq] at bc;obtain rfl:=Option.some.inj bc;exact GM k nC ft.live js aI
   ·obtain⟨hq,qc⟩:=DA fF aa e3;rw[Env.mb e3] at bc;exact ce.apart k fF nC oZ ft hq dM aI bc
 ·intro b _ jf;refine yD _ _ _ _ _ ?_;rintro rfl;exact jf ⟨l,loc,.inl ⟨_,_,aZ⟩,az,rfl⟩
 ·rintro b ⟨k,dz,U,aa,ae⟩;by_cases ah:k=H.next
  ·subst ah;rw[Env.nq] at aa;obtain rfl:=Option.some.inj aa;exact .inl ⟨l,loc,.inl ⟨_,_,aZ⟩,az,ae⟩
  ·obtain⟨ft,_⟩:=BE k U ah;rw[Env.mb ah] at aa;exact .inl ⟨k,dz,ft,aa,ae⟩
theorem Step.dead{cY:Env}{qQ sT:J}{b4:World}(h:Step ρ H w cY qQ b4)(aU:sT.next=qQ.next)(aZ: ∀k,sT.get k=qQ.get k\/sT.get k=some .dead):Step ρ H w cY sT b4:=by
 have GL: ∀k ro esz els,sT.get k=some (.row ro esz els)->qQ.get k=some (.row ro esz els):=λk ro esz els e=>by
  rcases aZ k with h|h
  ·rw[<-h];exact e
  ·rw[h] at e;cases e
 have get_map: ∀k es,sT.get k=some (.map es)->qQ.get k=some (.map es):=λk es e=>by
  rcases aZ k with h|h
  ·rw[<-h];exact e
  ·rw[h] at e;cases e
 have j8: ∀k,sT.rw k->qQ.rw k:=λk h=>by
  rcases h with⟨a,b,h⟩|⟨a,h⟩
  ·exact .inl ⟨a,b,GL _ _ _ _ h⟩
  ·exact .inr ⟨a,get_map _ _ h⟩
 have zI: ∀k,sT.live k->qQ.live k:=λk h=>by
  rcases h with⟨a,b,c,h⟩|⟨a,h⟩
  ·exact .inl ⟨a,b,c,GL _ _ _ _ h⟩
  ·exact .inr ⟨a,get_map _ _ h⟩
 refine⟨h.le,by rw[aU];exact h.next,λl az=>h.bo l (by rw[<-aU];exact az),⟨λl ro esz els e=>h.rel.row l ro esz els (GL _ _ _ _ e),λl es e=>h.rel.map l es (get_map _ _ e),λl l' a b U aa=>h.rel.apart l l' a b (j8 _ U) (zI _ aa)⟩,h.os,h.tape,h.output,h.size,h.frame,?_,λk esz els e=>h.ro k esz els (GL _ _ _ _ e)⟩;rintro b ⟨l,loc,U,aa,ae⟩;exact h.own b ⟨l,loc,j8 _ U,aa,ae⟩
theorem ZS(ce:Rel ρ H w){ts:List TypeId}{s x a:I}{s' er:Value}{H':J}(ty:TypeId)(h:fQ P H ts s x=some (a,H'))(M5:H.next<H'.next->ρ H.next=none)(aM:cW ρ s s')(ag:cW ρ x er):
  ∃r b4 cY,(Builtin.append_ ts.toArray ty #[s',er]).run P w= .ok r b4/\cW cY a r/\Step ρ H w cY H' b4:=by
 unfold fQ at h;split at h
 ·rename_i t nn;split at h
  ·rename_i e hu;split at h
   ·rename_i esz p6 z fO r9 cn;split at h
    ·rename_i bU an9;obtain⟨d1,d2,news,d3,Ex⟩:=aav (P:=P) ce an9 ag;split at h
     ·rename_i wm;obtain⟨tg,ox⟩:=wm;have VW:bU.length=0->Src P esz nn er 0 [] w:=λaY=>by
       have:bU=[]:=List.eq_nil_of_length_eq_zero aY;subst this;have:news=[]:=by cases d3;rfl
       subst this;simpa using Ex
      split at h
      ·cases aM;split at h
       ·rename_i aY;simp only[bF,dw] at h;obtain⟨rfl,rfl⟩:=h;exact⟨_,_,_,Pn w t nn ty e hu fO none 0 0 (bN _) er (VW aY),.ap,Step.refl ce⟩
       ·rename_i aY;split at h
        ·rename_i ax;simp only[bF,dw] at h;obtain⟨rfl,rfl⟩:=h;have al:=M5 (by simp);have:=Kx ce al ty hu fO r9 cn tg ox d1 d2 d3 Ex (os:=[]) (by simp) (by simp) (olds:=[]) (by simpa using dI.nil) none 0 0 rfl
          (run_firstCells_none w.drew esz 0 0 0) Z (by simpa using ax.1) (by simpa using ax.2)
         simpa using this
        ·cases h
      ·rename_i l i n qS cap;split at h
       ·rename_i he;split at h
        ·rename_i aY;simp only[bF,dw] at h;obtain⟨rfl,rfl⟩:=h;cases aM with|aN _ _ _ _ loc A2 c az aU aS bV=>
         exact⟨_,_,_,Pn w t nn ty e hu fO (some A2) n c aU er (VW aY),.aN l i n cap loc A2 c az aU aS bV,Step.refl ce⟩
        ·rename_i aY;split at h
         ·rename_i ax;split at h
          ·rename_i os sd;cases aM with|aN _ _ _ _ loc A2 c az aU aS bV=>
           subst he;obtain⟨N5,cR,dd,olds,dG,eM,iN,wB⟩:=JW ce sd az;have hold:(Builtin.firstCells loc.esz n (.slice (some A2) n c)).run P w.drew= .ok olds.toArray w.drew:=by
            refine run_firstCells_some w.drew loc.esz n A2 n c olds eM (λj u bH=> ?_);have M1:0<c:=by
             rcases Nat.eq_zero_or_pos c with aY|aY
             ·have Fc:n=0:=Z;rw[Fc] at eM;have:olds=[]:=List.eq_nil_of_length_eq_zero (by simpa using eM);subst this;simp at bH
             ·exact aY
            obtain⟨rfl,_⟩:=bV M1;rw[addr_add];exact iN j u bH
           split at h
           ·rename_i xQ;simp only[bF,dw] at h;obtain⟨rfl,rfl⟩:=h;have al:=M5 (by simp);have CU:c<n+bU.length:=by
             cases wb:cap with
             |none=>rw[wb] at xQ;simp at xQ
             |some k=>rw[wb] at xQ;simp at xQ;have:=aS k wb;omega
            exact Kx ce al ty hu fO r9 cn tg ox d1 d2 d3 Ex cR dd dG (some A2) n c N5 hold CU ax.1 ax.2
           ·split at h
            ·rename_i aqv;split at h
             ·rename_i nR apR E6;simp only[bF,dw] at h;obtain⟨rfl,rfl⟩:=h;have al:=M5 (by simp);obtain⟨dz,dD,sV,arr,t0,ie,Yh,uG,mR⟩:=ce.row _ _ _ _ E6;obtain rfl:loc=dz:=Option.some.inj (az.symm.trans dD);subst sV;unfold pV at sd;rw[E6] at sd;simp only[true_and] at sd;split at sd
              ·rename_i kP;simp only[bF] at sd;subst sd;by_cases LI:n+bU.length<=c
               ·obtain⟨rfl,Cu⟩:=bV Z;obtain⟨Hf,LC⟩:=uG rfl;have pQ:=abM ce al E6 az kP d1 d2 d3 (by
                 refine Nat.le_trans (Nat.add_le_add_left (Nat.mul_le_mul_right _ ?_) _) Cu;omega)
                have aoo:news.length=bU.length*loc.esz:=by rw[<-d3.length,wF d1]
                have WS: ∀j,j<news.length->loc.off+i*loc.esz+n*loc.esz+j<arr.size:=by
                 intro j bH;have U:(i+c)*loc.esz=i*loc.esz+c*loc.esz:=Nat.add_mul _ _ _;have aa:n*loc.esz+bU.length*loc.esz<=c*loc.esz:=by rw[<-Nat.add_mul];exact Nat.mul_le_mul_right _ LI
                 omega
                cases ya:P.info? e with
                |none=>unfold fs at fO;rw[ya] at fO;cases fO
                |some yA=>
                 have Eu:yA.size=loc.esz:=by unfold fs at fO;rw[ya] at fO;simpa using fO
                 have oy:=run_append_room_src (P:=P) w t nn ty e yA hu ya loc.block (loc.off+i*loc.esz) n c er bU.length news (by rw[Eu];exact Ex) LI
                  (λj bH=>by rw[Eu];simp[World.cell?,Yh,WS j bH])
                  (λj bH=>by
                   rw[Eu];have:=LC _ (WS j bH);simp only[World.frozen?,Yh];simpa using this)
                 rw[Eu] at oy;refine⟨_,_,_,oy,?_,by rw[show loc.off+i*loc.esz+n*loc.esz=loc.off+(i+n)*loc.esz by rw[Nat.add_mul];omega];exact pQ⟩;refine cW.aN (ρ:=ρ.iL H.next _) H.next 0 (n+bU.length) none ⟨loc.block,loc.off+i*loc.esz,loc.esz,loc.size⟩ _ c (Env.nq _ _ _) LI (λk ah=>by cases ah) (λ_=>⟨by simp,?_⟩)
                 have U:(i+c)*loc.esz=i*loc.esz+c*loc.esz:=Nat.add_mul _ _ _;simp only[Nat.zero_add];omega
               ·
                 obtain⟨r,b4,cY,g1,g2,g3⟩:=Kx ce al ty hu fO r9 cn tg ox d1 d2 d3 Ex cR dd dG (some A2) n c N5 hold Z ax.1 ax.2;refine⟨r,b4,cY,g1,g2,g3.dead (by simp) (λk=> ?_)⟩;have iT:=J.aX E6;by_cases ah:k=H.next
                 ·subst ah;left;rw[J.ca];exact J.ca (H.set l .dead) _
                 ·by_cases iJ:k=l
                  ·subst iJ;right;rw[J.gD (by simpa using ah),J.get_set_same iT]
                  ·left;rw[J.gD (by simpa using ah),J.get_set_other (Ne.symm iJ),J.gD ah]
              ·cases sd
             ·cases h
            ·cases h
          ·cases h
         ·cases h
       ·cases h
      ·cases h
     ·cases h
    ·cases h
   ·cases h
  ·cases h
 ·cases h
end
end
section
section
variable {P:Program}{ρ:Env}{H:J}{w:World}
def L3(P:Program)(H:J)(t:TypeId)(x:I):Option I:=
 match P.underlying t,x with
 |some .string,.str s=>some (.int .i64 s.length)
 |some (.slice _),.aN _ _ n _ _=>some (.int .i64 n)
 |some (.slice _),.ap=>some (.int .i64 0)
 |some (.array n _),_=>some (.int .i64 n)
 |some (.map _ _),.oQ=>some (.int .i64 0)
 |some (.map _ _),.map l=>(match H.get l with|some (.map es)=>some (.int .i64 es.length)|_=>none)
 |_,_=>none
theorem J2{l:Nat}{es:List (I×I)}(ce:Rel ρ H w)(aZ:H.get l=some (.map es)){loc:Loc}(az:ρ l=some loc):
  ∃ents clock,w.heap[loc.block]? =some (.map ents clock)/\(getObj loc.block).run P w= .ok (.map ents clock) w/\dI ρ (es.map (·.1)) (ents.toList.map (·.key))/\dI ρ (es.map (·.2)) (ents.toList.map (·.val)):=by
 obtain⟨dz,dD,ents,clock,ax,U,aa⟩:=ce.map _ _ aZ;obtain rfl:loc=dz:=Option.some.inj (az.symm.trans dD);exact⟨ents,clock,ax,by simp[getObj,Sem.run,ax],U,aa⟩
theorem abc(ce:Rel ρ H w){t:TypeId}{x v:I}{er:Value}(ty:TypeId)(h:L3 P H t x=some v)(ag:cW ρ x er): ∃r,(Builtin.len_ #[t] ty #[er]).run P w= .ok r w/\cW ρ v r:=by
 unfold L3 at h;split at h
 ·rename_i s hu;cases ag;simp only[bF] at h;subst h;have aM:(⟨s.toArray⟩:ByteArray).size=s.length:=by show s.toArray.size=_;simp
  exact⟨_,by simp[Builtin.len_,run_underlying hu,goInt,aM],.int _ _⟩
 ·rename_i hu;cases ag;simp only[bF] at h;subst h;exact⟨_,by simp[Builtin.len_,run_underlying hu,goInt],.int _ _⟩
 ·rename_i hu;cases ag;simp only[bF] at h;subst h;exact⟨_,by simp[Builtin.len_,run_underlying hu,goInt],.int _ _⟩
 ·rename_i n e hu;simp only[bF] at h;subst h;exact⟨_,by simp[Builtin.len_,run_underlying hu,goInt],.int _ _⟩
 ·rename_i hu;cases ag;simp only[bF] at h;subst h;exact⟨_,by simp[Builtin.len_,run_underlying hu,goInt],.int _ _⟩
 ·rename_i hu;cases ag with|map _ loc az=>
  split at h
  ·rename_i es aZ;simp only[bF] at h;subst h;obtain⟨ents,clock,ax,ut,U,aa⟩:=J2 (P:=P) ce aZ az;have hlen:=U.length;simp only[List.length_map,Array.length_toList] at hlen;exact⟨_,by simp[Builtin.len_,run_underlying hu,goInt,ut,<-hlen],.int _ _⟩
  ·cases h
 ·cases h
def Hb(x y:I):Option I:=
 match x,y with
 | .int k a,.int _ b=>some (.int k (if a<b then b else a))
 |_,_=>none
def Hc(x y:I):Option I:=
 match x,y with
 | .int k a,.int _ b=>some (.int k (if b<a then b else a))
 |_,_=>none
theorem abd{x y v:I}{er jj:Value}(ts:Array TypeId)(ty:TypeId)(h:Hb x y=some v)(ag:cW ρ x er)(cV:cW ρ y jj)(w:World): ∃r,(Builtin.max_ ts ty #[er,jj]).run P w= .ok r w/\cW ρ v r:=by
 unfold Hb at h;split at h
 ·cases ag;cases cV;simp only[bF] at h;subst h;exact⟨_,by simp[Builtin.max_,Builtin.max2],.int _ _⟩
 ·cases h
theorem abe{x y v:I}{er jj:Value}(ts:Array TypeId)(ty:TypeId)(h:Hc x y=some v)(ag:cW ρ x er)(cV:cW ρ y jj)(w:World): ∃r,(Builtin.min_ ts ty #[er,jj]).run P w= .ok r w/\cW ρ v r:=by
 unfold Hc at h;split at h
 ·cases ag;cases cV;simp only[bF] at h;subst h;exact⟨_,by simp[Builtin.min_,Builtin.min2],.int _ _⟩
 ·cases h
def gT(x:I)(i:Nat):Option I:=
 match x with
 | .tuple cl=>cl[i]?
 |_=>none
theorem ZL{x v:I}{er:Value}{i:Nat}(h:gT x i=some v)(ag:cW ρ x er)(w:World): ∃r,(Instr.extract er i).run P w= .ok r w/\cW ρ v r:=by
 unfold gT at h;split at h
 ·cases ag with|tuple _ xs aM=>
  obtain⟨r,a8,bA⟩:=aM.get _ _ h;exact⟨r,by simp[Instr.extract,a8],bA⟩
 ·cases h
def B_(P:Program)(src dst:TypeId)(x:I):Option I:=
 match P.underlying src,P.underlying dst,x with
 |some _,some (.int k),.int _ n=>some (.int k (k.wrap n))
 |some _,some .string,.str s=>some (.str s)
 |_,_,_=>none
theorem aar{src dst:TypeId}{x v:I}{er:Value}(h:B_ P src dst x=some v)(ag:cW ρ x er)(w:World): ∃r,(convert src dst er).run P w= .ok r w/\cW ρ v r:=by
 unfold B_ at h;split at h
 ·rename_i aM bd;cases ag;simp only[bF] at h;subst h;exact⟨_,by simp[convert,run_underlying aM,run_underlying bd,Conv.intToInt],.int _ _⟩
 ·rename_i aM bd;cases ag;simp only[bF] at h;subst h;exact⟨_,by simp[convert,run_underlying aM,run_underlying bd],.str _⟩
 ·cases h
def byteOf:List I->Option UInt8
 |[.int .u8 n]=>some (UInt8.ofNat n.toNat)
 |_=>none
def bytesOf:List (List I)->Option (List UInt8)
 |[]=>some []
 |e::r=>match byteOf e,bytesOf r with
  |some b,some l=>some (b::l)
  |_,_=>none
def Du(P:Program)(H:J)(src dst:TypeId)(x:I):Option I:=
 match P.underlying src,P.underlying dst,x with
 |some (.slice e),some .string,.aN l i n esz _=>
  (match P.underlying e,pV H l i n esz with
  |some (.int .u8),some bU=>if esz=1 then(bytesOf bU).map .str else none
  |_,_=>none)
 |some (.slice e),some .string,.ap=>(match P.underlying e with|some (.int .u8)=>some (.str [])|_=>none)
 |_,_,_=>none
theorem PM(f:Value->ByteArray->Sem (ForInStep ByteArray))(al: ∀n s,f (.int .u8 n) s=pure (ForInStep.yield (s.push (UInt8.ofNat n.toNat)))): ∀(bU:List (List I)) (ji:List UInt8),bytesOf bU=some ji-> ∀(xs:List Value),dI ρ bU.flatten xs-> ∀(acc:ByteArray),
  (forIn xs acc f).run P w= .ok (acc++⟨ji.toArray⟩) w
 |[],ji,h,xs,ag,acc=>by
  simp[bytesOf] at h;subst h;cases ag;have:acc++(⟨#[]⟩:ByteArray)=acc:=by apply ByteArray.ext;simp
  simp[Sem.run_pure,this]
 |d::bU,ji,h,xs,ag,acc=>by
  unfold bytesOf at h;split at h
  ·rename_i b l ax az;simp only[bF] at h;subst h;unfold byteOf at ax;split at ax
   ·rename_i n;simp only[bF] at ax;subst ax;cases ag with|cons _ x _ uU du cJ=>
    cases du;have aT:=PM f al bU l az uU cJ (acc.push (UInt8.ofNat n.toNat));rw[List.forIn_cons];simp only[Sem.run_bind,al,Sem.run_pure,Result.andThen_ok];rw[aT]
    congr 1
    apply ByteArray.ext;simp
   ·cases ax
  ·cases h
theorem ZE(ce:Rel ρ H w){src dst:TypeId}{x v:I}{er:Value}(h:Du P H src dst x=some v)(ag:cW ρ x er): ∃r,(convert src dst er).run P w= .ok r w/\cW ρ v r:=by
 unfold Du at h;split at h
 ·rename_i e l i n esz cap aM bd;split at h
  ·rename_i bU he Ma;split at h
   ·rename_i U;simp only[Option.map_eq_some_iff] at h;obtain⟨ji,an3,rfl⟩:=h;cases ag with|aN _ _ _ _ loc a c az aU aS bV=>
    obtain⟨N5,cR,dd,xs,dG,eM,iN,wB⟩:=JW ce Ma az;refine⟨.string ⟨ji.toArray⟩,?_,.str _⟩;have akg:(loadCells a n).run P w= .ok xs.toArray w:=by
     rw[U,Nat.mul_one] at eM;rw[<-eM];refine run_loadCells_list w a xs (λj u bH=> ?_);have M1:0<c:=by
      rcases Nat.eq_zero_or_pos c with aY|aY
      ·have Fc:n=0:=Z;have:xs=[]:=List.eq_nil_of_length_eq_zero Z;subst this;simp at bH
      ·exact aY
     obtain⟨rfl,_⟩:=bV M1;rw[addr_add];exact iN j u bH
    have amz:ByteArray.empty++(⟨ji.toArray⟩:ByteArray)=⟨ji.toArray⟩:=by apply ByteArray.ext;simp
    simp only[convert,Sem.run_bind,run_underlying aM,run_underlying bd,run_underlying he,Result.andThen_ok,Conv.bytesToString,akg];rw[<-Array.forIn_toList];show((Sem.run P (forIn xs ByteArray.empty _) w).andThen _)=_;rw[PM (P:=P) (w:=w) _ (λ_ _=>rfl) bU ji an3 xs dG ByteArray.empty,amz];rfl
   ·cases h
  ·cases h
 ·rename_i e aM bd;cases ag;split at h
  ·rename_i he;simp only[bF] at h;subst h;exact⟨.string ⟨#[]⟩,by simp[convert,run_underlying aM,run_underlying bd,run_underlying he,Conv.bytesToString];rfl,.str []⟩
  ·cases h
 ·cases h
def Gd(P:Program)(H:J)(t:TypeId)(l c:I):Option (I×J):=
 match P.underlying t,l,c with
 |some (.slice e),.int cG n,.int dh m=>
  (match fs P e,rv P e,j2 P e with
  |some fY,some p6,some z=>
   if cG= .i64/\dh= .i64/\0<=n/\n<=m/\m<=9223372036854775807/\(p6:Int)*m<=281474976710656/\z.cells.length=fY/\0<fY/\z.cells.all I.one=true then
    some (.aN H.next 0 n.toNat fY (some m.toNat),H.push (.row false fY (List.replicate m.toNat z.cells)))
   else none
  |_,_,_=>none)
 |_,_,_=>none
theorem wrap_i64{n:Int}(aY:0<=n)(U:n<=9223372036854775807):IntKind.i64.wrap n=n:=IntWalk.i64_in n ⟨Z,Z⟩
theorem ZH(ce:Rel ρ H w)(al:ρ H.next=none){t:TypeId}{l c a:I}{l' c':Value}{H':J}(h:Gd P H t l c=some (a,H'))(az:cW ρ l l')(aS:cW ρ c c'):
  ∃r b4 cY,(Instr.makeSlice t l' c').run P w= .ok r b4/\cW cY a r/\Step ρ H w cY H' b4:=by
 unfold Gd at h;split at h
 ·rename_i e cG n dh m hu;cases az;cases aS;split at h
  ·rename_i fY p6 z fO r9 cn;split at h
   ·rename_i mh;obtain⟨rfl,rfl,aY,U,aa,ae,tg,ox,dN⟩:=mh;simp only[bF,dw] at h;obtain⟨rfl,rfl⟩:=h;obtain⟨iY,sh,uK⟩:=Bk cn w;have lJ: ∀u∈z.cells,u.one=true:=by simpa using dN
    have wm:=(uK ρ).cells;have uJ:iY.cells.size=fY:=by have:=wm.length;rw[<-tg,this];simp
    have Mi:=dI.Ji wm m.toNat;have aM:=F4 ce al (esz:=fY) (els:=List.replicate m.toNat z.cells) (λe he=>by rw[List.eq_of_mem_replicate he];exact tg)
     (λe he=>by rw[List.eq_of_mem_replicate he];exact lJ) Mi (tail:=[]) e
    cases ya:P.info? e with
    |none=>unfold fs at fO;rw[ya] at fO;cases fO
    |some yA=>
     have Eu:yA.size=fY:=by unfold fs at fO;rw[ya] at fO;simpa using fO
     have amB:yA.bytes=p6:=by unfold rv at r9;rw[ya] at r9;simpa using r9
     have hlen:(List.replicate m.toNat iY.cells.toList).flatten.length=m.toNat*fY:=by simp[uJ]
     refine⟨.slice (some ⟨w.heap.size,0,none⟩) n.toNat m.toNat,_,_,?_,?_,aM⟩
     ·have aoH:=wrap_i64 aY (Int.le_trans U aa);have aoI:=wrap_i64 (Int.le_trans aY U) aa;have ap_: ¬(m<0\/281474976710656<(p6:Int)*m):=Z;have hzero:=Si iY.cells m.toNat Z;rw[uJ] at hzero;simp only[Instr.makeSlice,Sem.run_bind,run_underlying hu,Result.andThen_ok,asInt,asIntOf,Sem.run_pure,typeInfo,ya,amB,aoH,aoI,run_program];rw[if_neg (by simp;omega)];simp only[Sem.run_bind,run_askRoom,Result.andThen_ok,run_sizeOf fO];by_cases Fa:m.toNat*fY=0
      ·simp only[Fa,if_true];have sc:m.toNat=0:=by rcases Nat.mul_eq_zero.1 Fa with h|h<;>omega
       have FT:Array.range 0= #[]:=rfl;simp[newRow,FT,sc]
      ·simp only[Fa,if_false,Sem.run_bind,sh,Result.andThen_ok,Sem.run_pure,uJ,hzero];simp[newRow]
     ·refine cW.aN (ρ:=ρ.iL H.next _) H.next 0 n.toNat (some m.toNat) ⟨w.heap.size,0,fY,_⟩ _ m.toNat (Env.nq _ _ _) Z (by simp) (λ_=>⟨by simp,?_⟩)
      simp only[Nat.zero_add,hlen];simp
   ·cases h
  ·cases h
 ·cases h
end
end
section
section
variable {P:Program}{ρ:Env}{H:J}{w:World}
def u5(d:TypeDesc)(a b:I):Option Bool:=
 match d,a,b with
 | .int _,.int k x,.int fF y=>if k=fF then some (x==y) else none
 | .string,.str x,.str y=>some (x==y)
 | .bool,.bool x,.bool y=>some (x==y)
 |_,_,_=>none
def pO(d:TypeDesc)(k:I):List (I×I)->Nat->Option (Option (Nat×I))
 |[],_=>some none
 |e::es,i=>match u5 d k e.1 with
  |some true=>some (some (i,e.2))
  |some false=>pO d k es (i+1)
  |none=>none
theorem OF{d:TypeDesc}{a b:I}{eg fq:Value}{r:Bool}(h:u5 d a b=some r)(bV:cW ρ a eg)(ax:cW ρ b fq):Instr.sameNow d eg fq=some r:=by
 unfold u5 at h;split at h
 ·cases bV;cases ax;split at h
  ·rename_i ah;subst ah;simpa [Instr.sameNow] using h
  ·cases h
 ·cases bV;cases ax;simp only[bF] at h;subst h;simp[Instr.sameNow,K1]
 ·cases bV;cases ax;simpa [Instr.sameNow] using h
 ·cases h
inductive L2(ρ:Env):Option (Nat×I)->Option (Nat×Value)->Prop where
 |none:L2 ρ none none
 |some (i:Nat) (v:I) (x:Value) (h:cW ρ v x):L2 ρ (some (i,v)) (some (i,x))
theorem Dv{d:TypeDesc}{k:I}{fF:Value}(ah:cW ρ k fF): ∀(es:List (I×I)) (ents:List MapEntry) (i:Nat) (r:Option (Nat×I)),pO d k es i=some r->
  dI ρ (es.map (·.1)) (ents.map (·.key))->dI ρ (es.map (·.2)) (ents.map (·.val))-> ∃hT,Instr.findNow d fF ents i=some hT/\L2 ρ r hT/\ ∀j v,r=some (j,v)->i<=j/\j<i+es.length/\ ∃e,es[j-i]? =some e/\u5 d k e.1=some true
 |[],ents,i,r,h,U,aa=>by
  simp[pO] at h;subst h;have:ents=[]:=by
   have:=U.length;simp at this;exact List.eq_nil_of_length_eq_zero this.symm
  subst this;exact⟨none,rfl,.none,λj v h=>by cases h⟩
 |e::es,[],i,r,h,U,aa=>by have:=U.length;simp at this
 |e::es,m::ents,i,r,h,U,aa=>by
  simp only[List.map_cons] at U aa;cases U with|cons _ _ _ _ bf df=>
  cases aa with|cons _ _ _ _ a2 cU=>
  unfold pO at h;unfold Instr.findNow;split at h
  ·rename_i aM;simp only[bF] at h;subst h;rw[OF aM ah bf];exact⟨_,rfl,.some i _ _ a2,λj v bH=>by
    simp only[bF,dw] at bH;obtain⟨rfl,_⟩:=bH;exact⟨bN _,by simp,e,by simp,aM⟩⟩
  ·rename_i aM;rw[OF aM ah bf];obtain⟨hT,ae,am,aB⟩:=Dv ah es ents (i+1) r h df cU;refine⟨hT,ae,am,λj v bH=> ?_⟩;obtain⟨aV,aJ,cN,bB,bK⟩:=aB j v bH;refine⟨Z,by simp;omega,cN,?_,bK⟩;rw[show j-i=(j-(i+1))+1 by omega];simpa using bB
  ·cases h
def plainKey(d:TypeDesc):Bool:=
 match d with
 | .int _| .string| .bool=>true
 |_=>false
theorem Jn{t:TypeId}{d:TypeDesc}(hu:P.underlying t=some d)(bw:plainKey d=true)(empty:Bool)(v:Value)(n:Nat)(w:World):(Instr.checkKey empty (n+1) t v).run P w= .ok () w:=by
 unfold Instr.checkKey;simp only[Sem.run_bind,run_underlying hu,Result.andThen_ok];cases d<;>simp[plainKey] at bw<;>rfl
def nX(P:Program)(H:J)(t:TypeId)(x k:I)(Sn:Bool):Option I:=
 match P.underlying t with
 |some (.map FW NW)=>
  (match P.underlying FW,j2 P NW with
  |some d,some z=>
   if plainKey d=true then
    (match(match x with| .oQ=>some []| .map l=>(match H.get l with|some (.map es)=>some es|_=>none)|_=>none) with
    |some es=>
     (match pO d k es 0 with
     |some (some (_,v))=>some (if Sn then .tuple [v,.bool true] else v)
     |some none=>some (if Sn then .tuple [z,.bool false] else z)
     |none=>none)
    |none=>none)
   else none
  |_,_=>none)
 |_=>none
theorem ZU(ce:Rel ρ H w){t:TypeId}{x k v:I}{er fF:Value}{ok:Bool}(h:nX P H t x k ok=some v)(ag:cW ρ x er)(ah:cW ρ k fF):
  ∃r,(Instr.lookup t er fF ok).run P w= .ok r w/\cW ρ v r:=by
 unfold nX at h;split at h
 ·rename_i FW NW hu;split at h
  ·rename_i d z bd cn;split at h
   ·rename_i bw;split at h
    ·rename_i es uF;obtain⟨iY,sh,uK⟩:=Bk cn w;have akd: ∃ents:Array MapEntry,dI ρ (es.map (·.1)) (ents.toList.map (·.key))/\dI ρ (es.map (·.2)) (ents.toList.map (·.val))/\
       ∀hT:Option (Nat×Value),Instr.findNow d fF ents.toList 0=some hT->(Instr.lookup t er fF ok).run P w=
       .ok (match hT with|some (_,v)=>(if ok then .tuple #[v,.bool true] else v)|none=>(if ok then .tuple #[iY,.bool false] else iY)) w:=by
      split at uF
      ·cases ag;simp only[bF] at uF;subst uF;refine⟨#[],by simpa using dI.nil,by simpa using dI.nil,λhT iU=> ?_⟩;unfold Instr.lookup;simp only[Sem.run_bind,run_underlying hu,Result.andThen_ok,Sem.run_pure];rw[Jn bd bw];simp only[Result.andThen_ok,Instr.findKey,Sem.run_bind,run_underlying bd,iU,Sem.run_pure];cases hT with
       |none=>simp[sh]
       |some p=>obtain⟨i,v⟩:=p;simp
      ·cases ag with|map l loc az=>
       split at uF
       ·rename_i es' aZ;simp only[bF] at uF;subst uF;obtain⟨ents,clock,ax,ut,U,aa⟩:=J2 (P:=P) ce aZ az;refine⟨ents,U,aa,λhT iU=> ?_⟩;unfold Instr.lookup;simp only[Sem.run_bind,run_underlying hu,Result.andThen_ok,Sem.run_pure,ut];rw[Jn bd bw];simp only[Result.andThen_ok,Instr.findKey,Sem.run_bind,run_underlying bd,iU,Sem.run_pure];cases hT with
        |none=>simp[sh]
        |some p=>obtain⟨i,v⟩:=p;simp
       ·cases uF
      ·cases uF
     obtain⟨ents,U,aa,VV⟩:=akd;split at h
     ·rename_i i dr al;simp only[bF] at h;subst h;obtain⟨hT,aI,bc,_⟩:=Dv ah es ents.toList 0 _ al U aa;cases bc with|some _ _ y cV=>
      refine⟨_,VV _ aI,?_⟩;cases ok
      ·exact cV
      ·exact .tuple _ [y,.bool true] (.cons _ _ _ _ cV (.cons _ _ _ _ (.bool _) .nil))
     ·rename_i al;simp only[bF] at h;subst h;obtain⟨hT,aI,bc,_⟩:=Dv ah es ents.toList 0 _ al U aa;cases bc;refine⟨_,VV _ aI,?_⟩;cases ok
      ·exact uK ρ
      ·exact .tuple _ [iY,.bool false] (.cons _ _ _ _ (uK ρ) (.cons _ _ _ _ (.bool _) .nil))
     ·cases h
    ·cases h
   ·cases h
  ·cases h
 ·cases h
def Kt(H:J):I×J:=(.map H.next,H.push (.map []))
theorem ZM(ce:Rel ρ H w)(al:ρ H.next=none)(t:TypeId): ∃r b4 cY,(Instr.makeMap t none).run P w= .ok r b4/\cW cY (Kt H).1 r/\Step ρ H w cY (Kt H).2 b4:=by
 have aM:=J8 ce al (.map []) rfl (.map #[] 0) ⟨w.heap.size,0,0,0⟩ rfl (λ_ _ _ h=>by cases h) (λes h=>by
  simp only[dY.map.injEq] at h;subst h;exact⟨#[],0,heap_alloc_new _ _,by simpa using dI.nil,by simpa using dI.nil⟩)
 refine⟨.map (some w.heap.size),_,_,?_,.map H.next ⟨w.heap.size,0,0,0⟩ (Env.nq _ _ _),aM⟩;simp[Instr.makeMap]
theorem Pq(ce:Rel ρ H w){l:Nat}{es es':List (I×I)}(aZ:H.get l=some (.map es)){loc:Loc}(az:ρ l=some loc){ents:Array MapEntry}{clock:Nat}
  (U:dI ρ (es'.map (·.1)) (ents.toList.map (·.key))) (aa:dI ρ (es'.map (·.2)) (ents.toList.map (·.val))):
  Step ρ H w ρ (H.set l (.map es')) {w with heap:=w.heap.setIfInBounds loc.block (.map ents clock)}:=by
 have et:=J.aX aZ;obtain⟨dz,dD,apH,apE,ax,_,_⟩:=ce.map _ _ aZ;obtain rfl:loc=dz:=Option.some.inj (az.symm.trans dD);have amp:=ss ax;have BQ: ∀k,k≠loc.block->({w with heap:=w.heap.setIfInBounds loc.block (.map ents clock)}:World).heap[k]? =w.heap[k]? :=λk ah=>by
  show(w.heap.setIfInBounds loc.block _)[k]? =_;rw[Array.getElem?_setIfInBounds,if_neg (Ne.symm ah)]
 have dM: ∀l' dz,H.live l'->l'≠l->ρ l'=some dz->dz.block≠loc.block:=λl' dz h bZ e heq=>
  ce.apart l l' loc dz (.inr ⟨_,aZ⟩) h (Ne.symm bZ) az e heq.symm
 have j8: ∀l',(H.set l (.map es')).rw l'->H.rw l':=by
  intro l' h;by_cases iT:l=l'
  ·subst iT;exact .inr ⟨_,aZ⟩
  ·simpa [J.rw,J.get_set_other iT] using h
 have zI: ∀l',(H.set l (.map es')).live l'->H.live l':=by
  intro l' h;by_cases iT:l=l'
  ·subst iT;exact .inr ⟨_,aZ⟩
  ·simpa [J.live,J.get_set_other iT] using h
 refine⟨ρ.le_refl,bN _,λ_ _=>rfl,⟨?_,?_,?_⟩,rfl,rfl,rfl,by simp,?_,?_,J.Vp rfl⟩
 ·intro l' AK qS mq h;by_cases iT:l=l'
  ·subst iT;rw[J.get_set_same et] at h;cases h
  ·rw[J.get_set_other iT] at h;obtain⟨dz,dD,aV,c',wD,E0,aJ,bB,bK⟩:=ce.row _ _ _ _ h;exact⟨dz,dD,aV,c',wD,E0,by rw[BQ _ (dM l' dz (.inl ⟨_,_,_,h⟩) (Ne.symm iT) dD)];exact aJ,bB,bK⟩
 ·intro l' aqo h;by_cases iT:l=l'
  ·subst iT;rw[J.get_set_same et] at h;simp only[bF,dY.map.injEq] at h;subst h;refine⟨loc,az,ents,clock,?_,U,aa⟩;show(w.heap.setIfInBounds loc.block _)[loc.block]? =_;rw[Array.getElem?_setIfInBounds,if_pos rfl,if_pos amp]
  ·rw[J.get_set_other iT] at h;obtain⟨dz,dD,aj6,ahn,aJ,bB⟩:=ce.map _ _ h;exact⟨dz,dD,aj6,ahn,by rw[BQ _ (dM l' dz (.inr ⟨_,h⟩) (Ne.symm iT) dD)];exact aJ,bB⟩
 ·intro eG fA nC oZ U aa dM aI bc;exact ce.apart eG fA nC oZ (j8 _ U) (zI _ aa) dM aI bc
 ·intro b _ jf;refine BQ b ?_;rintro rfl;exact jf ⟨l,loc,.inr ⟨_,aZ⟩,az,rfl⟩
 ·rintro b ⟨l',dz,U,aa,ae⟩;exact .inl ⟨l',dz,j8 _ U,aa,ae⟩
def jk(P:Program)(H:J)(t:TypeId)(m k v:I):Option J:=
 match P.underlying t,m with
 |some (.map FW _),.map l=>
  (match P.underlying FW,H.get l with
  |some d,some (.map es)=>
   if plainKey d=true then
    (match pO d k es 0 with
    |some (some (i,_))=>some (H.set l (.map (es.set i (k,v))))
    |some none=>some (H.set l (.map (es++[(k,v)])))
    |none=>none)
   else none
  |_,_=>none)
 |_,_=>none
theorem aam{d:TypeDesc}{a b:I}{eg fq:Value}(h:u5 d a b=some true)(bV:cW ρ a eg)(ax:cW ρ b fq)(n:Nat):Instr.sameBits (n+1) fq eg=true:=by
 unfold u5 at h;split at h
 ·cases bV;cases ax;split at h
  ·rename_i ah;subst ah;simp at h;subst h;simp[Instr.sameBits]
  ·cases h
 ·cases bV;cases ax;simp at h;subst h;simp[Instr.sameBits,K1]
 ·cases bV;cases ax;simp at h;subst h;simp[Instr.sameBits]
 ·cases h
theorem aaS(es:List (I×I))(i:Nat)(k v:I):(es.set i (k,v)).map (·.1)=(es.map (·.1)).set i k:=by simp[List.map_set]
theorem aaT(es:List (I×I))(i:Nat)(k v:I):(es.set i (k,v)).map (·.2)=(es.map (·.2)).set i v:=by simp[List.map_set]
theorem Oc(ce:Rel ρ H w){t:TypeId}{m k v:I}{fr fF dr:Value}{H':J}(h:jk P H t m k v=some H')(hm:cW ρ m fr)(ah:cW ρ k fF)(bA:cW ρ v dr):
  ∃b4,(Instr.mapUpdate t fr fF dr).run P w= .ok () b4/\Step ρ H w ρ H' b4:=by
 unfold jk at h;split at h
 ·rename_i FW NW l hu;cases hm with|map _ loc az=>
  split at h
  ·rename_i d es bd aZ;split at h
   ·rename_i bw;obtain⟨ents,clock,ax,ut,U,aa⟩:=J2 (P:=P) ce aZ az;have W1: ∀o:Obj,(setObj loc.block o).run P w= .ok () {w with heap:=w.heap.setIfInBounds loc.block o}:=λo=>by simp[setObj,Sem.run,ax]
    have WW: ∀hT,Instr.findNow d fF ents.toList 0=some hT->(Instr.mapUpdate t (.map (some loc.block)) fF dr).run P w=
      (match hT with
       |some (i,_)=>(do
        let key<-Instr.keyThatStays (((ents[i]?).map (·.key)).getD fF) fF
        setObj loc.block (.map (ents.modify i λe=>{e with key,val:=dr}) clock):Sem Unit).run P w
       |none=>(setObj loc.block (.map (ents.push {key:=fF,val:=dr,born:=clock}) (clock+1))).run P w):=by
     intro hT iU;unfold Instr.mapUpdate;simp only[Sem.run_bind,run_underlying hu,Result.andThen_ok,ut];rw[Jn bd bw];simp only[Result.andThen_ok,Instr.findKey,Sem.run_bind,run_underlying bd,iU,Sem.run_pure];cases hT with
     |none=>rfl
     |some p=>obtain⟨i,v⟩:=p;simp only[Sem.run_bind]
    split at h
    ·rename_i i v0 al;simp only[bF] at h;subst h;obtain⟨hT,aI,bc,dq⟩:=Dv ah es ents.toList 0 _ al U aa;cases bc with|some _ _ y cV=>
     obtain⟨_,be,e,he,aM⟩:=dq i v0 rfl;simp only[Nat.sub_zero,Nat.zero_add] at he be;have hlen:=U.length;simp only[List.length_map,Array.length_toList] at hlen;have yb:i<ents.size:=Z;obtain⟨Zs,aog,Ih⟩:=U.get i e.1 (by simp[he]);have amE:ents[i].key=Zs:=by simpa [yb] using aog
     have akl:(Instr.keyThatStays (((ents[i]?).map (·.key)).getD fF) fF).run P w= .ok fF w:=by
      unfold Instr.keyThatStays;have:((ents[i]?).map (·.key)).getD fF=Zs:=by simp[yb,amE]
      rw[this,if_pos (aam aM ah Ih 9999)];rfl
     refine⟨_,?_,Pq ce aZ az (es':=es.set i (k,v)) (ents:=ents.modify i λe=>{e with key:=fF,val:=dr}) (clock:=clock) ?_ ?_⟩
     ·rw[WW _ aI];simp only[Sem.run_bind,akl,Result.andThen_ok];exact W1 _
     ·rw[aaS];have:(ents.modify i λe=>{e with key:=fF,val:=dr}).toList.map (·.key)=(ents.toList.map (·.key)).set i fF:=by
       apply List.ext_getElem?;intro j;by_cases bH:i=j
       ·subst bH;simp[yb]
       ·simp[bH]
      rw[this];exact U.set ah i
     ·rw[aaT];have:(ents.modify i λe=>{e with key:=fF,val:=dr}).toList.map (·.val)=(ents.toList.map (·.val)).set i dr:=by
       apply List.ext_getElem?;intro j;by_cases bH:i=j
       ·subst bH;simp[yb]
       ·simp[bH]
      rw[this];exact aa.set bA i
    ·rename_i al;simp only[bF] at h;subst h;obtain⟨hT,aI,bc,dq⟩:=Dv ah es ents.toList 0 _ al U aa;cases bc;refine⟨_,?_,Pq ce aZ az (es':=es++[(k,v)]) (ents:=ents.push {key:=fF,val:=dr,born:=clock}) (clock:=clock+1) ?_ ?_⟩
     ·rw[WW _ aI];exact W1 _
     ·simpa using U.append (.cons _ _ _ _ ah .nil)
     ·simpa using aa.append (.cons _ _ _ _ bA .nil)
    ·cases h
   ·cases h
  ·cases h
 ·cases h
end
end
section
structure ci where
 t:da I
 size:Nat
def ci.get(R:ci)(d:Nat):I:=match R.t.get d with
 |some v=>v
 |none=> .tuple []
def ci.put(R:ci)(dst:Option Nat)(v:I):Option ci:=match dst with
 |none=>some R
 |some d=>if d<R.size then some {R with t:=da.put v (d+1) R.t d} else none
structure hF(ρ:Env)(R:ci)(a:Act):Prop where
 size:R.size=a.tmps.size
 get: ∀d,cW ρ (R.get d) (a.tmps.getD d undef)
 none:a.defers=[]
theorem hF.mono{ρ cY:Env}{R:ci}{a:Act}(h:hF ρ R a)(hle:ρ.le cY):hF cY R a:=⟨h.size,λd=>(h.get d).mono hle,h.none⟩
theorem ci.DQ{R ch:ci}{dst:Option Nat}{v:I}(h:R.put dst v=some ch)(d:Nat):ch.get d=if dst=some d then v else R.get d:=by
 cases dst with
 |none=>simp only[ci.put,bF] at h;subst h;simp
 |some e=>
  simp only[ci.put] at h;split at h
  ·simp only[bF] at h;subst h;by_cases he:e=d
   ·subst he;simp[ci.get,da.Dq v (e+1) R.t e Z]
   ·have:(some e=some d)=False:=by simp[he]
    simp[ci.get,da.Dn v (e+1) R.t e d he,he]
  ·cases h
theorem ci.BF{R ch:ci}{dst:Option Nat}{v:I}(h:R.put dst v=some ch):ch.size=R.size:=by
 cases dst with
 |none=>simp only[ci.put,bF] at h;subst h;rfl
 |some e=>
  simp only[ci.put] at h;split at h
  ·simp only[bF] at h;subst h;rfl
  ·cases h
theorem ci.Vl{R ch:ci}{d:Nat}{v:I}(h:R.put (some d) v=some ch):d<R.size:=by
 simp only[ci.put] at h;split at h
 ·assumption
 ·cases h
theorem hF.put{ρ:Env}{R ch:ci}{a:Act}{dst:Option Nat}{v:I}{x:Value}(h:hF ρ R a)(bw:R.put dst v=some ch)(bA:cW ρ v x):hF ρ ch (a.put dst x):=by
 refine⟨?_,λd=> ?_,?_⟩
 ·rw[ci.BF bw,h.size];cases dst<;>simp[Act.put]
 ·rw[ci.DQ bw];cases dst with
  |none=>simpa [Act.put] using h.get d
  |some e=>
   have et:=ci.Vl bw;rw[h.size] at et;by_cases he:e=d
   ·subst he;simpa [Act.put,et] using bA
   ·have:=h.get d;simp only[bF,he,if_false,Act.put,Array.getD_eq_getD_getElem?,Array.getElem?_setIfInBounds];simpa using this
 ·cases dst<;>simpa [Act.put] using h.none
def ey(R:ci):Operand->Option I
 | .tmp t=>some (R.get t)
 | .const v=>Ei v
 | .global _=>none
 | .func f=>some (.func (.func f) [] [])
section
variable {P:Program}{ρ:Env}{H:J}{w:World}{R:ci}{a:Act}
theorem gX(a8:hF ρ R a){x:Operand}{v:I}(h:ey R x=some v):cW ρ v (a.eval x):=by
 cases x with
 |tmp t=>simp only[ey,bF] at h;subst h;exact a8.get t
 |const c=>exact JN h ρ
 |global g=>cases h
 |func f=>simp only[ey,bF] at h;subst h;exact .func (.func f) [] [] [] [] .nil .nil
def om(R:ci):List Operand->Option (List I)
 |[]=>some []
 |x::xs=>match ey R x,om R xs with
  |some v,some cl=>some (v::cl)
  |_,_=>none
theorem Bj(a8:hF ρ R a): ∀{xs:List Operand} {cl:List I},om R xs=some cl->dI ρ cl (xs.map a.eval)
 |[],cl,h=>by simp only[om,bF] at h;subst h;exact .nil
 |x::xs,cl,h=>by
  simp only[om] at h;split at h
  ·rename_i v FJ bA tf;simp only[bF] at h;subst h;exact .cons _ _ _ _ (gX a8 bA) (Bj a8 tf)
  ·cases h
def qE(R:ci):List (Nat×Operand)->Option (List (Nat×I))
 |[]=>some []
 |(i,x)::xs=>match ey R x,qE R xs with
  |some v,some cl=>some ((i,v)::cl)
  |_,_=>none
theorem Jx(a8:hF ρ R a): ∀{xs:List (Nat×Operand)} {cl:List (Nat×I)},qE R xs=some cl->Cp ρ cl (xs.map λ(i,x)=>(i,a.eval x))
 |[],cl,h=>by simp only[qE,bF] at h;subst h;exact trivial
 |(i,x)::xs,cl,h=>by
  simp only[qE] at h;split at h
  ·rename_i v FJ bA tf;simp only[bF] at h;subst h;exact⟨rfl,gX a8 bA,Jx a8 tf⟩
  ·cases h
def sN(R:ci):Option Operand->Option (Option I)
 |none=>some none
 |some x=>match ey R x with
  |some v=>some (some v)
  |none=>none
theorem JI(a8:hF ρ R a){x:Option Operand}{v:Option I}(h:sN R x=some v):Co ρ v (x.map a.eval):=by
 cases x with
 |none=>simp only[sN,bF] at h;subst h;exact .none
 |some x=>
  simp only[sN] at h;split at h
  ·rename_i u hu;simp only[bF] at h;subst h;exact .some _ _ (gX a8 hu)
  ·cases h
def b5:I->Option I
 | .ptr l i c=>some (.ptr l i c)
 | .iface t v=>some (.iface t v)
 | .func (.func f) x y=>some (.func (.func f) x y)
 |_=>none
def La(P:Program)(t:TypeId)(v:I):Option I:=
 match P.underlying t with
 |some (.interface _)=>none
 |some _=>some (.iface t v)
 |none=>none
def dF(P:Program)(H:J)(b:Builtin)(ts:List TypeId)(cl:List I):Option I:=
 match b,ts,cl with
 | .len,[t],[x]=>L3 P H t x
 | .max,_,[x,y]=>Hb x y
 | .min,_,[x,y]=>Hc x y
 |_,_,_=>none
def qL(P:Program)(o:Op)(R:ci):Option I:=
 match o with
 | .move x=>ey R x
 | .assign x=>ey R x
 | .pick c a b=>match ey R c with
  |some (.bool t)=>if t then ey R a else ey R b
  |_=>none
 | .build t ew=>(qE R ew.toList).bind (cO P t)
 | .nilCheck x=>(ey R x).bind b5
 | .binOp op t x y _=>(ey R x).bind λu=>(ey R y).bind λv=>Em P op t x y u v
 | .unOp op _ x=>(ey R x).bind (eY op)
 | .convert s d x=>(ey R x).bind (B_ P s d)
 | .makeInterface t x=>(ey R x).bind (La P t)
 | .makeFunc fn f c=>(om R f.toList).bind λeD=>(om R c.toList).bind λcs=>some (.func fn eD cs)
 | .slice t x lo be re=>(ey R x).bind λv=>(sN R lo).bind λl=>(sN R be).bind λh=>(sN R re).bind λm=>kj P t v l h m
 | .fieldAddr t x f=>(ey R x).bind λv=>aE P t v f
 | .field t x f=>(ey R x).bind λv=>d8 P t v f
 | .indexAddr t x i=>(ey R x).bind λu=>(ey R i).bind λv=>dS P t u v
 | .index t x i=>(ey R x).bind λu=>(ey R i).bind λv=>h1 P t u v
 | .extract x i=>(ey R x).bind λv=>gT v i
 | .call c=>match c.callee with
  | .builtin b=>(om R c.args.toList).bind (dF P .empty b c.argTypes.toList)
  |_=>none
 |_=>none
theorem kl{s:Sem Value}{x:Value}{w b4:World}(h:s.run P w= .ok x b4):(do pure (.value (<-s)):Sem Next).run P w= .ok (.value x) b4:=by
 simp[h]
theorem LW{s:Sem Unit}{w b4:World}(h:s.run P w= .ok () b4):(do s;pure .skip:Sem Next).run P w= .ok .skip b4:=by
 simp[h]
theorem Rel.empty(ρ:Env)(w:World)(n:Nat):Rel ρ ⟨.leaf,n⟩ w:=by
 have: ∀l,(⟨.leaf,n⟩:J).get l=none:=λl=>by unfold J.get;split<;>first|exact da.DL _|rfl
 refine⟨λl _ _ _ h=> ?_,λl _ h=> ?_,λl l' _ _ h=> ?_⟩
 ·rw[this] at h;cases h
 ·rw[this] at h;cases h
 ·rcases h with⟨_,_,h⟩|⟨_,h⟩<;>(rw[this] at h;cases h)
theorem On(ce:Rel ρ H w){b:Builtin}{ts:List TypeId}{cl:List I}{v:I}{xs:List Value}(h:dF P H b ts cl=some v)(bA:dI ρ cl xs)(ty:TypeId)(cs:Array Bool):
  ∃x,(builtin b ts.toArray ty cs xs.toArray).run P w= .ok (.value x) w/\cW ρ v x:=by
 unfold dF at h;split at h
 ·cases bA with|cons _ x _ _ U aa=>
  cases aa;obtain⟨r,aI,bc⟩:=abc ce ty h U;exact⟨r,kl aI,bc⟩
 ·cases bA with|cons _ x _ _ U aa=>
  cases aa with|cons _ y _ _ ae am=>
  cases am;obtain⟨r,aI,bc⟩:=abd (P:=P) ts.toArray ty h U ae w;exact⟨r,kl aI,bc⟩
 ·cases bA with|cons _ x _ _ U aa=>
  cases aa with|cons _ y _ _ ae am=>
  cases am;obtain⟨r,aI,bc⟩:=abe (P:=P) ts.toArray ty h U ae w;exact⟨r,kl aI,bc⟩
 ·cases h
theorem map_toArray{α β:Type}(f:α->β)(xs:Array α):xs.map f=(xs.toList.map f).toArray:=by cases xs;simp
theorem Jk{o:Oper}{c:Call}{b:Builtin}(bt:o.op= .call c)(aS:c.callee= .builtin b)(w:World):
  (execOp a.eval o).run P w=(builtin b c.argTypes o.type (c.args.map λ | .const _=>true|_=>false) (c.args.map a.eval)).run P w:=by
 unfold execOp;rw[bt];simp only[resolve,aS];rfl
theorem aax{o:Oper}{v:I}(h:qL P o.op R=some v)(a8:hF ρ R a)(w:World): ∃x,(execOp a.eval o).run P w= .ok (.value x) w/\cW ρ v x:=by
 unfold qL at h;split at h
 ·rename_i x bt;exact⟨_,by unfold execOp;rw[bt];rfl,gX a8 h⟩
 ·rename_i x bt;exact⟨_,by unfold execOp;rw[bt];rfl,gX a8 h⟩
 ·rename_i c x y bt;split at h
  ·rename_i t bz;have U:=gX a8 bz;have aa:a.eval c= .bool t:=by
    generalize a.eval c=z at U;cases U;rfl
   cases t
   ·exact⟨_,by unfold execOp;rw[bt];simp only[aa];rfl,gX a8 h⟩
   ·exact⟨_,by unfold execOp;rw[bt];simp only[aa];rfl,gX a8 h⟩
  ·cases h
 ·rename_i t ew bt;simp only[eW] at h;obtain⟨cl,U,aa⟩:=h;obtain⟨x,aI,bc⟩:=Z5 aa (Jx a8 U) w;refine⟨x,?_,bc⟩;unfold execOp;rw[bt];rw[<-map_toArray] at aI;exact kl aI
 ·rename_i x bt;simp only[eW] at h;obtain⟨u,U,aa⟩:=h;have ae:=gX a8 U;refine⟨a.eval x,?_,?_⟩
  ·unfold execOp;rw[bt];simp only
   generalize a.eval x=z at ae;unfold b5 at aa;split at aa
   ·cases ae;rfl
   ·cases ae;rfl
   ·cases ae;rfl
   ·cases aa
  ·unfold b5 at aa;split at aa<;>first|(simp only[bF] at aa;subst aa;exact ae)|cases aa
 ·rename_i op t x y arj bt;simp only[eW] at h;obtain⟨u,U,z,aa,ae⟩:=h;obtain⟨r,aI,bc⟩:=abb ae (gX a8 U) (gX a8 aa) w;exact⟨r,by unfold execOp;rw[bt];exact kl aI,bc⟩
 ·rename_i op t x bt;simp only[eW] at h;obtain⟨u,U,ae⟩:=h;obtain⟨r,aI,bc⟩:=acS ae (gX a8 U) w;exact⟨r,by unfold execOp;rw[bt];exact kl aI,bc⟩
 ·rename_i s d x bt;simp only[eW] at h;obtain⟨u,U,ae⟩:=h;obtain⟨r,aI,bc⟩:=aar ae (gX a8 U) w;exact⟨r,by unfold execOp;rw[bt];exact kl aI,bc⟩
 ·rename_i t x bt;simp only[eW] at h;obtain⟨u,U,ae⟩:=h;have am:=gX a8 U;unfold La at ae;split at ae
  ·cases ae
  ·rename_i d dM hu;simp only[bF] at ae;subst ae;refine⟨.iface t (a.eval x),?_,.iface _ _ _ am⟩;unfold execOp;rw[bt];refine kl ?_;unfold Instr.makeInterface;simp only[Sem.run_bind,run_underlying hu,Result.andThen_ok];cases d<;>first|rfl|exact absurd rfl (dM _)
  ·cases ae
 ·rename_i fn f c bt;simp only[eW,bF] at h;obtain⟨eD,U,cs,aa,rfl⟩:=h;refine⟨_,?_,.func fn eD cs _ _ (Bj a8 U) (Bj a8 aa)⟩;unfold execOp;rw[bt];rw[<-map_toArray,<-map_toArray];rfl
 ·rename_i t x lo be re bt;simp only[eW] at h;obtain⟨u,U,l,aa,k,ae,m,am,aB⟩:=h;obtain⟨r,aI,bc⟩:=Z8 aB (gX a8 U) (JI a8 aa) (JI a8 ae) (JI a8 am) w;exact⟨r,by unfold execOp;rw[bt];exact kl aI,bc⟩
 ·rename_i t x f bt;simp only[eW] at h;obtain⟨u,U,ae⟩:=h;obtain⟨r,aI,bc⟩:=ZF ae (gX a8 U) w;exact⟨r,by unfold execOp;rw[bt];exact kl aI,bc⟩
 ·rename_i t x f bt;simp only[eW] at h;obtain⟨u,U,ae⟩:=h;obtain⟨r,aI,bc⟩:=Z6 ae (gX a8 U) w;exact⟨r,by unfold execOp;rw[bt];exact kl aI,bc⟩
 ·rename_i t x i bt;simp only[eW] at h;obtain⟨u,U,z,aa,ae⟩:=h;obtain⟨r,aI,bc⟩:=ZG ae (gX a8 U) (gX a8 aa) w;exact⟨r,by unfold execOp;rw[bt];exact kl aI,bc⟩
 ·rename_i t x i bt;simp only[eW] at h;obtain⟨u,U,z,aa,ae⟩:=h;obtain⟨r,aI,bc⟩:=Z7 ae (gX a8 U) (gX a8 aa) w;exact⟨r,by unfold execOp;rw[bt];exact kl aI,bc⟩
 ·rename_i x i bt;simp only[eW] at h;obtain⟨u,U,ae⟩:=h;obtain⟨r,aI,bc⟩:=ZL ae (gX a8 U) w;exact⟨r,by unfold execOp;rw[bt];exact kl aI,bc⟩
 ·rename_i c bt;split at h
  ·rename_i b aS;simp only[eW] at h;obtain⟨cl,U,aa⟩:=h;obtain⟨x,aI,bc⟩:=On (Rel.empty ρ w 0) aa (Bj a8 U) o.type (c.args.map λ | .const _=>true|_=>false);refine⟨x,?_,bc⟩;rw[Jk bt aS,map_toArray a.eval];simpa using aI
  ·cases h
 ·cases h
def mO(P:Program)(o:Op)(R:ci)(H:J):Option I:=
 match o with
 | .load t x=>(ey R x).bind (aj P H t)
 | .lookup t x k ok=>(ey R x).bind λu=>(ey R k).bind λv=>nX P H t u v ok
 | .convert s d x=>(ey R x).bind (Du P H s d)
 | .call c=>match c.callee with
  | .builtin b=>(om R c.args.toList).bind (dF P H b c.argTypes.toList)
  |_=>none
 |_=>none
theorem aay(ce:Rel ρ H w){o:Oper}{v:I}(h:mO P o.op R H=some v)(a8:hF ρ R a): ∃x,(execOp a.eval o).run P w= .ok (.value x) w/\cW ρ v x:=by
 unfold mO at h;split at h
 ·rename_i t x bt;simp only[eW] at h;obtain⟨u,U,ae⟩:=h;obtain⟨r,aI,bc⟩:=OZ ce ae (gX a8 U);exact⟨r,by unfold execOp;rw[bt];exact kl aI,bc⟩
 ·rename_i t x k ok bt;simp only[eW] at h;obtain⟨u,U,z,aa,ae⟩:=h;obtain⟨r,aI,bc⟩:=ZU ce ae (gX a8 U) (gX a8 aa);exact⟨r,by unfold execOp;rw[bt];exact kl aI,bc⟩
 ·rename_i s d x bt;simp only[eW] at h;obtain⟨u,U,ae⟩:=h;obtain⟨r,aI,bc⟩:=ZE ce ae (gX a8 U);exact⟨r,by unfold execOp;rw[bt];exact kl aI,bc⟩
 ·rename_i c bt;split at h
  ·rename_i b aS;simp only[eW] at h;obtain⟨cl,U,aa⟩:=h;obtain⟨x,aI,bc⟩:=On ce aa (Bj a8 U) o.type (c.args.map λ | .const _=>true|_=>false);refine⟨x,?_,bc⟩;rw[Jk bt aS,map_toArray a.eval];simpa using aI
  ·cases h
 ·cases h
def zF(P:Program)(o:Op)(R:ci)(H:J):Option (I×J):=
 match o with
 | .alloc t=>GS P H t
 | .box _ x=>(ey R x).bind (Cq H)
 | .buildSlice t n ew=>(qE R ew.toList).bind (Dt P H t n)
 | .makeMap _ none=>some (Kt H)
 | .makeSlice t l c=>(ey R l).bind λu=>(ey R c).bind λv=>Gd P H t u v
 |_=>none
theorem aau(ce:Rel ρ H w)(al:ρ H.next=none){o:Oper}{v:I}{H':J}(h:zF P o.op R H=some (v,H'))(a8:hF ρ R a):
  ∃x b4 cY,(execOp a.eval o).run P w= .ok (.value x) b4/\cW cY v x/\Step ρ H w cY H' b4:=by
 unfold zF at h;split at h
 ·rename_i t bt;obtain⟨r,b4,cY,aI,bc,dq⟩:=Z4 ce al h;exact⟨r,b4,cY,by unfold execOp;rw[bt];exact kl aI,bc,dq⟩
 ·rename_i t x bt;simp only[eW] at h;obtain⟨u,U,ae⟩:=h;obtain⟨r,b4,cY,aI,bc,dq⟩:=PB (P:=P) ce al ae (gX a8 U) t;exact⟨r,b4,cY,by unfold execOp;rw[bt];exact kl aI,bc,dq⟩
 ·rename_i t n ew bt;simp only[eW] at h;obtain⟨u,U,ae⟩:=h;obtain⟨r,b4,cY,aI,bc,dq⟩:=ZD ce al ae (Jx a8 U);refine⟨r,b4,cY,?_,bc,dq⟩;unfold execOp;rw[bt];rw[<-map_toArray] at aI;exact kl aI
 ·rename_i t bt;simp only[bF] at h;obtain⟨r,b4,cY,aI,bc,dq⟩:=ZM (P:=P) ce al t;rw[h] at bc dq;exact⟨r,b4,cY,by unfold execOp;rw[bt];exact kl aI,bc,dq⟩
 ·rename_i t l c bt;simp only[eW] at h;obtain⟨u,U,z,aa,ae⟩:=h;obtain⟨r,b4,cY,aI,bc,dq⟩:=ZH ce al ae (gX a8 U) (gX a8 aa);exact⟨r,b4,cY,by unfold execOp;rw[bt];exact kl aI,bc,dq⟩
 ·cases h
def dY.uu:dY->Bool
 | .row false _ _=>true
 | .map _=>true
 |_=>false
theorem dY.uu.ro{b:dY}(h:b.uu=true):b.HI=false:=by
 cases b with
 |row ro e s=>cases ro<;>first|rfl|cases h
 |map es=>rfl
 |dead=>rfl
def zN(r:Option (I×J))(l:Nat):Option (I×dY):=
 match r with
 |some (v,H')=>if H'.next=l+1 then(match H'.get l with
  |some b=>if b.uu then some (v,b) else none
  |none=>none) else none
 |none=>none
def rW(P:Program)(o:Op)(R:ci)(l:Nat):Option (I×dY):=zN (zF P o R ⟨.leaf,l⟩) l
def tM(P:Program)(o:Op)(R:ci)(H:J):Option (I×J):=
 match o with
 | .store t x y=>(ey R x).bind λu=>(ey R y).bind λv=>(aQ P H t u v).map λH'=>(.tuple [],H')
 | .mapUpdate t m k x=>(ey R m).bind λu=>(ey R k).bind λv=>(ey R x).bind λz=>(jk P H t u v z).map λH'=>(.tuple [],H')
 | .insert t m k x=>(ey R m).bind λu=>(ey R k).bind λv=>(ey R x).bind λz=>(jk P H t u v z).map λH'=>(.tuple [],H')
 | .call c=>match c.callee,c.args.toList with
  | .builtin .append,[s,x]=>(ey R s).bind λu=>(ey R x).bind λv=>fQ P H c.argTypes.toList u v
  |_,_=>none
 |_=>none
def WB(x:Value):Next->Prop
 | .value y=>y=x
 | .skip=>x=undef
 |_=>False
theorem aaa(ce:Rel ρ H w){o:Oper}{v:I}{H':J}(h:tM P o.op R H=some (v,H'))(al:H.next<H'.next->ρ H.next=none)(a8:hF ρ R a):
  ∃n x b4 cY,(execOp a.eval o).run P w= .ok n b4/\WB x n/\cW cY v x/\Step ρ H w cY H' b4:=by
 unfold tM at h;split at h
 ·rename_i t x y bt;simp only[eW,Option.map_eq_some_iff,dw] at h;obtain⟨u,U,z,aa,H1,ae,rfl,rfl⟩:=h;obtain⟨b4,aI,bc⟩:=Z9 ce ae (gX a8 U) (gX a8 aa);exact⟨.skip,undef,b4,ρ,by unfold execOp;rw[bt];exact LW aI,rfl,.tuple [] [] .nil,bc⟩
 ·rename_i t m k x bt;simp only[eW,Option.map_eq_some_iff,dw] at h;obtain⟨u,U,z,aa,y,am,H1,ae,rfl,rfl⟩:=h;obtain⟨b4,aI,bc⟩:=Oc ce ae (gX a8 U) (gX a8 aa) (gX a8 am);exact⟨.skip,undef,b4,ρ,by unfold execOp;rw[bt];exact LW aI,rfl,.tuple [] [] .nil,bc⟩
 ·rename_i t m k x bt;simp only[eW,Option.map_eq_some_iff,dw] at h;obtain⟨u,U,z,aa,y,am,H1,ae,rfl,rfl⟩:=h;obtain⟨b4,aI,bc⟩:=Oc ce ae (gX a8 U) (gX a8 aa) (gX a8 am);exact⟨.skip,undef,b4,ρ,by unfold execOp;rw[bt];exact LW aI,rfl,.tuple [] [] .nil,bc⟩
 ·rename_i c bt;split at h
  ·rename_i s x aS oT;simp only[eW] at h;obtain⟨u,U,z,aa,ae⟩:=h;obtain⟨r,b4,cY,aI,bc,dq⟩:=ZS ce o.type ae al (gX a8 U) (gX a8 aa);refine⟨.value r,r,b4,cY,?_,rfl,bc,dq⟩;rw[Jk bt aS,map_toArray a.eval,oT];refine kl (s:=Builtin.append_ c.argTypes o.type _) ?_;simpa using aI
  ·cases h
 ·cases h
end
end
end Go.gd
