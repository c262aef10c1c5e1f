/-
  Texts of one proof, laid together: Fv7 Fv8 Fv9 Fv10 Fv11.
-/
import Derived.Test.YtghmbpmaafnodaaGreatDoorMA
import Derived.Deep.AppendSrc
import Derived.Orders
set_option linter.unusedVariables false
set_option linter.unusedSimpArgs false
namespace Go.f7
section
section
variable {P:Program}{ρ:Env}{H:J}{w:World}
def d8(P:Program)(t:TypeId)(x:I)(f:Nat):Option I:=
 match P.underlying t,x with
 |some (.struct eA),.agg cs=>(match eA[f]? with|some d=>apart P d.type cs d.offset|none=>none)
 |_,_=>none
theorem aaH{t:TypeId}{x v:I}{el:Value}{f:Nat}(h:d8 P t x f=some v)(af:cT ρ x el)(w:World): ∃r,(Instr.field t el f).run P w= .ok r w/\cT ρ v r:=by
 unfold d8 at h;split at h
 ·rename_i eA cs hu;cases af with|agg _ xs aS=>
  split at h
  ·rename_i d bb;obtain⟨r,U,aa⟩:=Bd h aS w;exact⟨r,by simp[Instr.field,run_underlying hu,bb,asAgg,U],aa⟩
  ·cases h
 ·cases h
def aF(P:Program)(t:TypeId)(x:I)(f:Nat):Option I:=
 match P.underlying t,x with
 |some (.struct eA),.ptr l i c=>(match eA[f]? with|some d=>(match fq P d.type with|some n=>if n=0 then none else some (.ptr l i (c+d.offset))|none=>none)|none=>none)
 |_,_=>none
theorem aaf{t:TypeId}{x v:I}{el:Value}{f:Nat}(h:aF P t x f=some v)(af:cT ρ x el)(w:World): ∃r,(Instr.fieldAt t el f).run P w= .ok r w/\cT ρ v r:=by
 unfold aF at h;split at h
 ·rename_i eA l i c hu;cases af with|ptr _ _ _ loc ax=>
  split at h
  ·rename_i d bb;split at h
   ·rename_i n aV;split at h
    ·cases h
    ·rename_i a6;simp only[bD] at h;subst h;refine⟨_,?_,.ptr l i (c+d.offset) loc ax⟩;simp[Instr.fieldAt,run_underlying hu,bb,Instr.sureAddr,fieldPlace,run_sizeOf aV,a6,addr_add,Nat.add_assoc]
   ·cases h
  ·cases h
 ·cases h
def en(P:Program)(t:TypeId)(x l0:I):Option I:=
 match P.underlying t,x,l0 with
 |some (.slice e),.aM l i n esz _,.int _ k=>(match fq P e with|some fZ=>if fZ=esz/\0<=k/\k<n then some (.ptr l (i+k.toNat) 0) else none|none=>none)
 |some (.array len e),.ptr l i c,.int _ k=>(match fq P e with|some fZ=>if 0<=k/\k<len then some (.ptr l i (c+k.toNat*fZ)) else none|none=>none)
 |_,_,_=>none
theorem aag{t:TypeId}{x l0 v:I}{el FB:Value}(h:en P t x l0=some v)(af:cT ρ x el)(be:cT ρ l0 FB)(w:World): ∃r,(Instr.indexAt t el FB).run P w= .ok r w/\cT ρ v r:=by
 unfold en at h;split at h
 ·rename_i e l i n esz cap py k hu;cases be;cases af with|aM _ _ _ _ loc a c ax aV aS b1=>
  split at h
  ·rename_i fZ fI;split at h
   ·rename_i l9;obtain⟨rfl,a6,U⟩:=l9;simp only[bD] at h;subst h;obtain⟨rfl,_⟩:=b1 Z;refine⟨_,?_,.ptr l (i+k.toNat) 0 loc ax⟩;have aI:loc.off+i*loc.esz+k.toNat*loc.esz=loc.off+(i+k.toNat)*loc.esz+0:=by rw[Nat.add_mul];omega
    simp[Instr.indexAt,asIntOf,run_underlying hu,a6,U,run_sizeOf fI,addr_add]
   ·cases h
  ·cases h
 ·rename_i len e l i c py k hu;cases be;cases af with|ptr _ _ _ loc ax=>
  split at h
  ·rename_i fZ fI;split at h
   ·rename_i l9;obtain⟨a6,U⟩:=l9;simp only[bD] at h;subst h;refine⟨_,?_,.ptr l i (c+k.toNat*fZ) loc ax⟩;simp[Instr.indexAt,asIntOf,run_underlying hu,Instr.sureAddr,a6,U,run_sizeOf fI,addr_add,Nat.add_assoc]
   ·cases h
  ·cases h
 ·cases h
def hP(P:Program)(t:TypeId)(x l0:I):Option I:=
 match P.underlying t,x,l0 with
 |some .string,.str s,.int _ k=>if 0<=k then(match s[k.toNat]? with|some b=>some (.int .u8 b.toNat)|none=>none) else none
 |some (.array len e),.agg cs,.int _ k=>(match fq P e with|some fZ=>if 0<=k/\k<len then apart P e cs (k.toNat*fZ) else none|none=>none)
 |_,_,_=>none
theorem adz(s:List UInt8)(k:Nat):(⟨s.toArray⟩:ByteArray)[k]? =s[k]? :=by
 simp only[getElem?,decidableGetElem?];by_cases h:k<s.length
 ·have bZ:k<(⟨s.toArray⟩:ByteArray).size:=by show k<s.toArray.size;simpa using h
  simp[h,bZ];rfl
 ·have bZ: ¬k<(⟨s.toArray⟩:ByteArray).size:=by show ¬k<s.toArray.size;simpa using h
  simp[h,bZ]
theorem aaI{t:TypeId}{x l0 v:I}{el FB:Value}(h:hP P t x l0=some v)(af:cT ρ x el)(be:cT ρ l0 FB)(w:World): ∃r,(Instr.index t el FB).run P w= .ok r w/\cT ρ v r:=by
 unfold hP at h;split at h
 ·rename_i s py k hu;cases be;cases af;split at h
  ·rename_i a6;split at h
   ·rename_i b ay;simp only[bD] at h;subst h;refine⟨_,?_,.int _ _⟩;simp only[Instr.index,asIntOf,Sem.run_bind,Sem.run_pure,Result.andThen_ok,run_underlying hu,if_pos a6,adz,ay]
   ·cases h
  ·cases h
 ·rename_i len e cs py k hu;cases be;cases af with|agg _ xs aS=>
  split at h
  ·rename_i fZ fI;split at h
   ·rename_i l9;obtain⟨r,U,aa⟩:=Bd h aS w;exact⟨r,by simp[Instr.index,asIntOf,run_underlying hu,l9,run_sizeOf fI,U],aa⟩
   ·cases h
  ·cases h
 ·cases h
def hz(x:Option I)(anb y:Nat):Option Nat:=
 match x with
 |none=>some anb
 |some (.int _ k)=>if 0<=k/\k<=y then some k.toNat else none
 |some _=>none
def kh(P:Program)(t:TypeId)(x:I)(lo be rk:Option I):Option I:=
 match P.underlying t,x with
 |some .string,.str s=>
  (match rk,hz be s.length s.length with
  |none,some h=>(match hz lo 0 h with|some l=>some (.str ((s.drop l).take (h-l)))|none=>none)
  |_,_=>none)
 |some (.slice e),.aM l i n esz cap=>
  (match fq P e,rk with
  |some fZ,none=>
   if fZ=esz then
    (match hz be n (cap.getD n) with
    |some h=>(match hz lo 0 h with|some k=>some (.aM l (i+k) (h-k) esz (cap.map (· -k)))|none=>none)
    |none=>none)
   else none
  |some fZ,some m=>
   if fZ=esz then
    (match hz (some m) 0 (cap.getD n) with
    |some m=>(match be,hz be 0 m with
     |some _,some h=>(match hz lo 0 h with|some k=>some (.aM l (i+k) (h-k) esz (some (m-k)))|none=>none)
     |_,_=>none)
    |none=>none)
   else none
  |_,_=>none)
 |some (.slice e),.an=>
  (match fq P e,rk with
  |some _,none=>(match hz be 0 0 with
   |some h=>(match hz lo 0 h with|some _=>some .an|none=>none)
   |none=>none)
  |_,_=>none)
 |_,_=>none
inductive Cn(ρ:Env):Option I->Option Value->Prop where
 |none:Cn ρ none none
 |some (v:I) (x:Value) (h:cT ρ v x):Cn ρ (some v) (some x)
theorem nj{v:I}{x:Value}{d y k:Nat}(h:hz (some v) d y=some k)(af:cT ρ v x)(code:BoundsCode){jf:Nat}(cR:y<=jf)(w:World):
  (Instr.sliceBound x jf code).run P w= .ok k w/\k<=y:=by
 unfold hz at h;split at h
 ·rename_i bW;cases bW
 ·rename_i py n bW;cases bW;cases af;split at h
  ·rename_i aS;simp only[bD] at h;subst h;refine⟨?_,Z⟩;simp only[Instr.sliceBound,asIntOf,Sem.run_bind,Sem.run_pure,Result.andThen_ok];rw[if_pos Z];exact Sem.run_pure ..
  ·cases h
 ·cases h
theorem aaA(s:List UInt8)(l h:Nat):(⟨s.toArray⟩:ByteArray).extract l h=⟨((s.drop l).take (h-l)).toArray⟩:=by
 apply ByteArray.ext;simp[ByteArray.data_extract,List.extract_eq_take_drop]
theorem aaJ{t:TypeId}{x v:I}{el:Value}{lo be rk:Option I}{C7 At Iv:Option Value}(h:kh P t x lo be rk=some v)(af:cT ρ x el)(kl:Cn ρ lo C7)(CV:Cn ρ be At)(Iq:Cn ρ rk Iv)(w:World):
  ∃r,(Instr.sliceAt t el C7 At Iv).run P w= .ok r w/\cT ρ v r:=by
 unfold kh at h;split at h
 ·rename_i s hu;cases af;have fI:(⟨s.toArray⟩:ByteArray).size=s.length:=by show s.toArray.size=_;simp
  split at h
  ·rename_i bW ay;cases Iq;split at h
   ·rename_i l ax;simp only[bD] at h;subst h;refine⟨_,?_,.str _⟩;have aI: ∃m,(Instr.sliceBounds false s.length s.length C7 At none).run P w= .ok (l,bW,m) w:=by
     refine⟨s.length,?_⟩;cases CV with
     |none=>
      simp only[hz,bD] at ay;subst ay;cases kl with
      |none=>simp only[hz,bD] at ax;subst ax;simp[Instr.sliceBounds]
      |some v x bw=>simp[Instr.sliceBounds,(nj ax bw _ (bL _) w).1]
     |some v x bw=>
      have:=(nj (P:=P) ay bw .sliceAlen (bL _) w).1;cases kl with
      |none=>simp only[hz,bD] at ax;subst ax;simp[Instr.sliceBounds,this]
      |some v x bw=>simp[Instr.sliceBounds,this,(nj ax bw _ (bL _) w).1]
    obtain⟨m,aI⟩:=aI;simp[Instr.sliceAt,Instr.slice,run_underlying hu,fI,aI,aaA]
   ·cases h
  ·cases h
 ·rename_i e l i n esz cap hu;cases af with|aM _ _ _ _ loc a c ax aV aS b1=>
  have xM:cap.getD n<=c:=by
   cases wc:cap with
   |none=>exact aV
   |some k=>have:=aS k wc;simp;omega
  split at h
  ·rename_i fZ fI;cases Iq;split at h
   ·rename_i Ny;subst Ny;split at h
    ·rename_i bW ay;split at h
     ·rename_i k ah;simp only[bD] at h;subst h;have arB:bW<=c:=by
       cases CV with
       |none=>simp only[hz,bD] at ay;omega
       |some v x bw=>have:=(nj (P:=P) ay bw .sliceAcap xM w).2;omega
      have aph:k<=bW:=by
       cases kl with
       |none=>simp only[hz,bD] at ah;omega
       |some v x bw=>exact(nj (P:=P) ah bw .sliceB (bL _) w).2
      have aI:(Instr.sliceBounds true n c C7 At none).run P w= .ok (k,bW,c) w:=by
       cases CV with
       |none=>
        simp only[hz,bD] at ay;subst ay;cases kl with
        |none=>simp only[hz,bD] at ah;subst ah;simp[Instr.sliceBounds]
        |some v x bw=>simp[Instr.sliceBounds,(nj ah bw _ (bL _) w).1]
       |some v x bw=>
        have:=(nj (P:=P) ay bw .sliceAcap xM w).1;cases kl with
        |none=>simp only[hz,bD] at ah;subst ah;simp[Instr.sliceBounds,this]
        |some v x bw=>simp[Instr.sliceBounds,this,(nj ah bw _ (bL _) w).1]
      refine⟨.slice (some (if c=k then a else a.add (k*loc.esz))) (bW-k) (c-k),?_,?_⟩
      ·simp[Instr.sliceAt,Instr.slice,run_underlying hu,aI,run_sizeOf fI];split<;>rfl
      ·refine .aM l (i+k) (bW-k) _ loc _ (c-k) ax Z (λm hm=> ?_) (λoC=> ?_)
       ·cases wc:cap with
        |none=>rw[wc] at hm;cases hm
        |some q=>rw[wc] at hm;simp at hm;have:=aS q wc;omega
       ·obtain⟨rfl,Cu⟩:=b1 Z;rw[if_neg Z,addr_add];refine⟨?_,?_⟩
        ·congr 1;rw[Nat.add_mul];omega
        ·rw[show i+k+(c-k)=i+c by omega];exact Cu
     ·cases h
    ·cases h
   ·cases h
  ·rename_i fZ m0 fI;cases Iq with|some _ Iv Fj=>
   split at h
   ·rename_i Ny;subst Ny;split at h
    ·rename_i m hm;obtain⟨Z6,aq_⟩:=nj (P:=P) hm Fj .slice3Acap xM w;split at h
     ·rename_i bw bW ay;cases CV with|some _ x jr=>
      obtain⟨Z5,aqW⟩:=nj (P:=P) ay jr .slice3B (bL _) w;split at h
      ·rename_i k ah;simp only[bD] at h;subst h;have aph:k<=bW:=by
        cases kl with
        |none=>simp only[hz,bD] at ah;omega
        |some v x bw=>exact(nj (P:=P) ah bw .sliceB (bL _) w).2
       have aI:(Instr.sliceBounds true n c C7 (some x) (some Iv)).run P w= .ok (k,bW,m) w:=by
        cases kl with
        |none=>simp only[hz,bD] at ah;subst ah;simp[Instr.sliceBounds,Z6,Z5]
        |some v x bw=>simp[Instr.sliceBounds,Z6,Z5,(nj ah bw _ (bL _) w).1]
       refine⟨.slice (some (if m=k then a else a.add (k*loc.esz))) (bW-k) (m-k),?_,?_⟩
       ·simp[Instr.sliceAt,Instr.slice,run_underlying hu,aI,run_sizeOf fI];split<;>rfl
       ·refine .aM l (i+k) (bW-k) _ loc _ (m-k) ax Z (λq bg=>by simpa using bg) (λoC=> ?_);obtain⟨rfl,Cu⟩:=b1 Z;rw[if_neg Z,addr_add];refine⟨?_,?_⟩
        ·congr 1;rw[Nat.add_mul];omega
        ·refine Nat.le_trans (Nat.add_le_add_left (Nat.mul_le_mul_right _ ?_) _) Cu;omega
      ·cases h
     ·cases h
    ·cases h
   ·cases h
  ·cases h
 ·rename_i e hu;cases af;split at h
  ·rename_i fZ fI;cases Iq;split at h
   ·rename_i bW ay;split at h
    ·rename_i k ah;simp only[bD] at h;subst h;have apc:bW=0:=by
      cases CV with
      |none=>simp only[hz,bD] at ay;omega
      |some v x bw=>have:=(nj (P:=P) ay bw .sliceAcap (bL _) w).2;omega
     subst apc;have Nq:k=0:=by
      cases kl with
      |none=>simp only[hz,bD] at ah;omega
      |some v x bw=>have:=(nj (P:=P) ah bw .sliceB (bL _) w).2;omega
     subst Nq;refine⟨.slice none 0 0,?_,.an⟩;have aI:(Instr.sliceBounds true 0 0 C7 At none).run P w= .ok (0,0,0) w:=by
      cases CV with
      |none=>
       cases kl with
       |none=>simp[Instr.sliceBounds]
       |some v x bw=>simp[Instr.sliceBounds,(nj ah bw _ (bL _) w).1]
      |some v x bw=>
       have:=(nj (P:=P) ay bw .sliceAcap (bL _) w).1;cases kl with
       |none=>simp[Instr.sliceBounds,this]
       |some v x bw=>simp[Instr.sliceBounds,this,(nj ah bw _ (bL _) w).1]
     simp[Instr.sliceAt,Instr.slice,run_underlying hu,aI,run_sizeOf fI]
    ·cases h
   ·cases h
  ·cases h
 ·cases h
end
end
section
section
variable {P:Program}{ρ:Env}{H:J}{w:World}
theorem Qa(c:Array Value): ∀(d:List I) (o:Nat),(∀(j:Nat) (v:I),d[j]? =some v->v.one=true/\ ∃x,c[o+j]? =some x/\cT ρ v x)->
  ∃xs:List Value,dG ρ d xs/\(∀j u,xs[j]? =some u->c[o+j]? =some u)/\ ∀u∈xs,u.oneCell'=true
 |[],_,_=>⟨[],.nil,λj u h=>by simp at h,λu h=>by cases h⟩
 |v::d,o,h=>by
  obtain⟨U,x,af,bw⟩:=h 0 v rfl;obtain⟨xs,aI,bc,dm⟩:=Qa c d (o+1) (λj u bP=>by have:=h (j+1) u (by simpa using bP);rwa[show o+(j+1)=o+1+j by omega] at this);refine⟨x::xs,.cons _ _ _ _ bw aI,?_,?_⟩
  ·intro j u bP;cases j with
   |zero=>simp at bP;subst bP;exact af
   |succ j=>rw[show o+(j+1)=o+1+j by omega];exact bc j u (by simpa using bP)
  ·intro u hu;rcases List.mem_cons.1 hu with rfl|hu
   ·exact bw.TL U
   ·exact dm u hu
theorem Rl(c:Array Value)(esz:Nat): ∀(els:List (List I)) (o:Nat),(∀(i:Nat) (e:List I),els[i]? =some e->e.length=esz/\ ∀(j:Nat) (v:I),e[j]? =some v->v.one=true/\ ∃x,c[o+i*esz+j]? =some x/\cT ρ v x)->
  ∃xs:List Value,dG ρ els.flatten xs/\(∀j u,xs[j]? =some u->c[o+j]? =some u)/\ ∀u∈xs,u.oneCell'=true
 |[],_,_=>⟨[],by simpa using dG.nil,λj u h=>by simp at h,λu h=>by cases h⟩
 |d::els,o,h=>by
  obtain⟨bb,aS⟩:=h 0 d rfl;obtain⟨dQ,bd,a2,a3⟩:=Qa c d o (λj v bP=>by simpa using aS j v bP);obtain⟨xs,aI,bc,dm⟩:=Rl c esz els (o+esz) (λi e he=>by
   have:=h (i+1) e (by simpa using he);rw[Nat.succ_mul] at this;refine⟨this.1,λj v bP=> ?_⟩;have:=this.2 j v bP;rwa[show o+(i*esz+esz)+j=o+esz+i*esz+j by omega] at this)
  have ax:=bd.length;refine⟨dQ++xs,by simpa using bd.append aI,?_,?_⟩
  ·intro j u bP;by_cases CX:j<dQ.length
   ·rw[List.getElem?_append_left CX] at bP;exact a2 j u bP
   ·rw[List.getElem?_append_right Z] at bP;have:=bc _ u bP;rwa[show o+esz+(j-dQ.length)=o+j by omega] at this
  ·intro u hu;rcases List.mem_append.1 hu with hu|hu
   ·exact a3 u hu
   ·exact dm u hu
def p4(H:J)(l i n esz:Nat):Option (List (List I)):=
 match H.get l with
 |some (.row _ qZ els)=>if qZ=esz/\i+n<=els.length then some ((els.drop i).take n) else none
 |_=>none
theorem Gz{els:List (List I)}{i n k:Nat}{e:List I}(h:((els.drop i).take n)[k]? =some e):els[i+k]? =some e:=by
 rw[List.getElem?_take] at h;split at h
 ·rw[List.getElem?_drop] at h;exact h
 ·cases h
theorem J3(ce:Rel ρ H w){l i n:Nat}{loc:Loc}{bU:List (List I)}(h:p4 H l i n loc.esz=some bU)(ax:ρ l=some loc):
  bU.length=n/\(∀e∈bU,e.length=loc.esz)/\(∀e∈bU,∀v∈e,v.one=true)/\
  ∃xs:List Value,dG ρ bU.flatten xs/\xs.length=n*loc.esz/\(∀j u,xs[j]? =some u->w.cell? ⟨loc.block,loc.off+i*loc.esz+j,none⟩=some u)/\ ∀u∈xs,u.oneCell'=true:=by
 unfold p4 at h;split at h
 ·rename_i ro qZ els aX;split at h
  ·rename_i l9;obtain⟨rfl,hle⟩:=l9;simp only[bD] at h;subst h;obtain⟨dB,dF,_,c,t,h4,ay,_,a7⟩:=ce.row _ _ _ _ aX;obtain rfl:loc=dB:=Option.some.inj (ax.symm.trans dF);have hlen:((els.drop i).take n).length=n:=by simp;omega
   have U: ∀e∈(els.drop i).take n,e.length=loc.esz:=λe he=>by
    obtain⟨k,ah⟩:=List.getElem?_of_mem he;exact(a7 _ e (Gz ah)).1
   have aa: ∀e∈(els.drop i).take n,∀v∈e,v.one=true:=λe he v bw=>by
    obtain⟨k,ah⟩:=List.getElem?_of_mem he;obtain⟨j,bP⟩:=List.getElem?_of_mem bw;exact((a7 _ e (Gz ah)).2 j v bP).1
   refine⟨hlen,U,aa,?_⟩;obtain⟨xs,aI,bc,dm⟩:=Rl (ρ:=ρ) c loc.esz ((els.drop i).take n) (loc.off+i*loc.esz) (λk e ah=>by
    have:=a7 _ e (Gz ah);refine⟨this.1,λj v bP=> ?_⟩;have:=this.2 j v bP;rwa[Nat.add_mul,<-Nat.add_assoc] at this)
   refine⟨xs,aI,by rw[<-aI.length,wG U,hlen],λj u bP=> ?_,dm⟩;simp[World.cell?,ay,bc j u bP]
  ·cases h
 ·cases h
def sL(P:Program)(H:J)(jU:TypeId)(esz:Nat)(x:I):Option (List (List I)):=
 match P.underlying jU,x with
 |some (.slice _),.aM l i n qZ _=>if qZ=esz then p4 H l i n esz else none
 |some (.slice _),.an=>some []
 |some .string,.str s=>if esz=1 then some (s.map λb=>[.int .u8 b.toNat]) else none
 |_,_=>none
theorem aax(s:List UInt8):dG ρ ((s.map λb=>[I.int .u8 b.toNat]).flatten) (byteCells ⟨s.toArray⟩):=by
 unfold byteCells;show dG ρ _ (s.map _)
 induction s with
 |nil=>exact .nil
 |cons b s aT=>exact .cons _ _ _ _ (.int _ _) aT
theorem aa9(ce:Rel ρ H w){jU:TypeId}{esz:Nat}{x:I}{el:Value}{bU:List (List I)}(h:sL P H jU esz x=some bU)(af:cT ρ x el):
  (∀e∈bU,e.length=esz)/\(∀e∈bU,∀v∈e,v.one=true)/\ ∃news:List Value,dG ρ bU.flatten news/\Src P esz jU el bU.length news w:=by
 unfold sL at h;split at h
 ·rename_i e l i n qZ cap hu;split at h
  ·rename_i he;subst he;cases af with|aM _ _ _ _ loc a c ax aV aS b1=>
   obtain⟨U,aa,ae,xs,al,aB,aG,aP⟩:=J3 ce h ax;refine⟨aa,ae,xs,al,?_⟩;rw[U];refine Src.ofSlice w hu a n c xs aB (λj u bP=> ?_) aP;have oC:0<c:=by
    rcases Nat.eq_zero_or_pos c with a6|a6
    ·have Fl:n=0:=Z;rw[Fl] at aB;have:xs=[]:=List.eq_nil_of_length_eq_zero (by simpa using aB);subst this;simp at bP
    ·exact a6
   obtain⟨rfl,_⟩:=b1 oC;rw[addr_add];exact aG j u bP
  ·cases h
 ·rename_i e hu;cases af;simp only[bD] at h;subst h;exact⟨by simp,by simp,[],by simpa using dG.nil,Src.ofNil w hu 0⟩
 ·rename_i s hu;split at h
  ·rename_i he;subst he;cases af;simp only[bD] at h;subst h;refine⟨by simp,by simp[I.one],_,aax s,?_⟩;have:=Src.ofString w hu (⟨s.toArray⟩:ByteArray);have aO:(⟨s.toArray⟩:ByteArray).size=s.length:=by show s.toArray.size=_;simp
   rw[aO] at this;simpa using this
  ·cases h
 ·cases h
def rA(P:Program)(t:TypeId):Option Nat:=(P.info? t).map (·.bytes)
def fM(P:Program)(H:J)(ts:List TypeId)(s x:I):Option (I×J):=
 match ts with
 |[t,jU]=>
  (match P.underlying t with
  |some (.slice e)=>
   (match fq P e,rA P e,jZ P e with
   |some esz,some qf,some z=>
    (match sL P H jU esz x with
    |some bU=>
     if z.cells.length=esz/\0<esz then
      (match s with
      | .an=>if bU.length=0 then some (.an,H) else
       if bU.length*qf<=140737488355328/\bU.length<=9223372036854775807 then some (.aM H.next 0 bU.length esz none,H.push (.row false esz bU)) else none
      | .aM l i n qZ cap=>
       if qZ=esz then
        if bU.length=0 then some (s,H)
        else if(n+bU.length)*qf<=140737488355328/\n+bU.length<=9223372036854775807 then
         (match p4 H l i n esz with
         |some os=>
          if cap.any (· <n+bU.length)=true then some (.aM H.next 0 (n+bU.length) esz none,H.push (.row false esz (os++bU)))
          else if cap=none then
           (match H.get l with
           |some (.row false _ _)=>some (.aM H.next 0 (n+bU.length) esz none,(H.set l .dead).push (.row false esz (os++bU)))
           |_=>none)
          else none
         |none=>none)
        else none
       else none
      |_=>none)
     else none
    |none=>none)
   |_,_,_=>none)
  |_=>none)
 |_=>none
theorem PL(w:World)(t jU ty e:TypeId)(bC:P.underlying t=some (.slice e)){esz:Nat}(fI:fq P e=some esz)(base:Option Addr)(n c:Nat)(aV:n<=c)(x:Value)(aO:Src P esz jU x 0 [] w):
  (Builtin.append_ #[t,jU] ty #[.slice base n c,x]).run P w= .ok (.slice base n c) w:=by
 have D_:=aO.cells;rcases aO.kind with⟨cC,ah⟩|ah<;>cases base<;>
  simp[Builtin.append_,run_underlying bC,run_underlying ah,run_sizeOf fI,aO.len,aV,D_,storeCells]
theorem KI(ce:Rel ρ H w)(ak:ρ H.next=none){t jU e:TypeId}(ty:TypeId)(bC:P.underlying t=some (.slice e)){esz qf:Nat}{z:I}(fI:fq P e=some esz)(r7:rA P e=some qf)(ct:jZ P e=some z)
  (tg:z.cells.length=esz) (oC:0<esz)
  {bU os:List (List I)} (d1: ∀e∈bU,e.length=esz) (d2: ∀e∈bU,∀v∈e,v.one=true) {news:List Value} (d3:dG ρ bU.flatten news) {el:Value} (aO:Src P esz jU el bU.length news w)
  (cZ: ∀e∈os,e.length=esz) (dk: ∀e∈os,∀v∈e,v.one=true) {olds:List Value} (dJ:dG ρ os.flatten olds) (base:Option Addr) (n c:Nat) (sb:os.length=n)
  (hold:(Builtin.firstCells esz n (.slice base n c)).run P w.drew= .ok olds.toArray w.drew) (aX:c<n+bU.length) (ay:(n+bU.length)*qf<=140737488355328) (arw:n+bU.length<=9223372036854775807):
  ∃r b5 cX,(Builtin.append_ #[t,jU] ty #[.slice base n c,el]).run P w= .ok r b5/\cT cX (.aM H.next 0 (n+bU.length) esz none) r/\Step ρ H w cX (H.push (.row false esz (os++bU))) b5:=by
 unfold jZ at ct;unfold fq at fI;unfold rA at r7;simp only[eT] at ct;obtain⟨i,be,iT,sf,apN⟩:=ct;rw[be] at fI r7;simp only[Option.map_some,bD] at fI r7;subst fI;subst r7;have wn:=(JU apN ρ).cells;have uH:iT.cells.size=i.size:=by have:=wn.length;rw[tg] at this;simpa using this.symm
 have oD:=run_append_grow_src (P:=P) w t jU ty e i iT bC be sf base n c olds hold el bU.length news aO aX Z (growslice_fits aX ay);have ln:Rel ρ H w.drew:=ce.drew;have pY:=Gc (w:=w.drew) ln ak (esz:=i.size) (els:=os++bU) (λe he=>(List.mem_append.1 he).elim (cZ e) (d1 e)) (λe he=>(List.mem_append.1 he).elim (dk e) (d2 e))
  (xs:=olds++news) (tail:=(Builtin.zeroCells iT.cells (grownCap w (n+bU.length) c e-(n+bU.length))).toList) (by simpa using dJ.append d3) e
 have aI:((olds++news)++(Builtin.zeroCells iT.cells (grownCap w (n+bU.length) c e-(n+bU.length))).toList).toArray=(olds++news).toArray++Builtin.zeroCells iT.cells (grownCap w (n+bU.length) c e-(n+bU.length)):=by
  apply Array.ext';simp
 rw[aI] at pY;refine⟨_,_,_,oD,?_,⟨pY.le,pY.next,pY.bo,pY.rel,pY.os,pY.tape,pY.output,pY.size,pY.frame,pY.own,pY.ro⟩⟩;have wh:=grownCap_ge w (n+bU.length) c e;refine cT.aM (ρ:=ρ.iF H.next _) H.next 0 (n+bU.length) none _ _ (grownCap w (n+bU.length) c e) (Env.np _ _ _) wh (λk ah=>by cases ah) (λ_=>⟨by show(⟨w.heap.size,0,none⟩:Addr)=⟨w.heap.size,0+0*i.size,none⟩;simp,?_⟩)
 have eI:olds.length=n*i.size:=by rw[<-dJ.length,wG cZ,sb]
 have fB:news.length=bU.length*i.size:=by rw[<-d3.length,wG d1]
 have gL:(Builtin.zeroCells iT.cells (grownCap w (n+bU.length) c e-(n+bU.length))).size=(grownCap w (n+bU.length) c e-(n+bU.length))*i.size:=by rw[size_zeroCells,uH]
 simp only[Nat.zero_add,List.length_append,eI,fB,Array.length_toList,gL];rw[<-Nat.add_mul,<-Nat.add_mul];exact Nat.mul_le_mul_right _ Z
theorem acp(ce:Rel ρ H w)(ak:ρ H.next=none){l i n esz:Nat}{els:List (List I)}(aX:H.get l=some (.row false esz els)){loc:Loc}(ax:ρ l=some loc)(kP:i+n<=els.length)
  {bU:List (List I)} (d1: ∀e∈bU,e.length=esz) (d2: ∀e∈bU,∀v∈e,v.one=true) {news:List Value} (d3:dG ρ bU.flatten news) (Cu:loc.off+(i+n+bU.length)*esz<=loc.size):
  Step ρ H w (ρ.iF H.next ⟨loc.block,loc.off+i*esz,esz,loc.size⟩) ((H.set l .dead).push (.row false esz ((els.drop i).take n++bU))) (w.setCells loc.block (loc.off+(i+n)*esz) news):=by
 have eo:=J.aW aX;obtain⟨dB,dF,_,arr,t,h4,ay,uE,mL⟩:=ce.row _ _ _ _ aX;obtain rfl:loc=dB:=Option.some.inj (ax.symm.trans dF);obtain⟨Hn,LR⟩:=uE rfl;have hle:=Env.BY ak ⟨loc.block,loc.off+i*esz,esz,loc.size⟩;have apo:news.length=bU.length*esz:=by rw[<-d3.length,wG d1]
 obtain⟨s1,s2,jH,qA⟩:=JC loc.block news (loc.off+(i+n)*esz) w;have DJ: ∀k,k≠H.next->k≠l->((H.set l .dead).push (.row false esz ((els.drop i).take n++bU))).get k=H.get k:=λk U aa=>by
  rw[J.gy (by simpa using U),J.get_set_other (Ne.symm aa)]
 have Ej:((H.set l .dead).push (.row false esz ((els.drop i).take n++bU))).get l=some .dead:=by
  rw[J.gy (by simp;omega),J.get_set_same eo]
 have K3:((H.set l .dead).push (.row false esz ((els.drop i).take n++bU))).get H.next=some (.row false esz ((els.drop i).take n++bU)):=J.ca (H.set l .dead) _
 have BJ: ∀k,((H.set l .dead).push (.row false esz ((els.drop i).take n++bU))).rw k->k≠H.next->H.rw k/\k≠l:=λk h ah=>by
  have iE:k≠l:=by rintro rfl;rcases h with⟨_,_,h⟩|⟨_,h⟩<;>(rw[Ej] at h;cases h)
  simpa [J.rw,DJ k ah iE,iE] using h
 have DF: ∀k,((H.set l .dead).push (.row false esz ((els.drop i).take n++bU))).live k->k≠H.next->H.live k/\k≠l:=λk h ah=>by
  have iE:k≠l:=by rintro rfl;rcases h with⟨_,_,_,h⟩|⟨_,h⟩<;>(rw[Ej] at h;cases h)
  simpa [J.live,DJ k ah iE,iE] using h
 have GW: ∀k dB,H.live k->k≠l->ρ k=some dB->dB.block≠loc.block:=λk dB h bZ e heq=>
  ce.apart l k loc dB (.inl ⟨_,_,aX⟩) h (Ne.symm bZ) ax e heq.symm
 refine⟨hle,by simp,λk ah=>Env.l3 (by simp at ah;omega),⟨?_,?_,?_⟩,s2,jH,qA,Nat.le_of_eq s1.symm,?_,?_,?ro⟩
 case ro=>
  intro k qZ me h;by_cases ah:k=H.next
  ·subst ah;rw[K3] at h;cases h
  ·by_cases iE:k=l
   ·subst iE;rw[Ej] at h;cases h
   ·rwa[DJ k ah iE] at h
 ·intro k AE qZ me h;by_cases ah:k=H.next
  ·subst ah;rw[K3] at h;simp only[bD,dZ.row.injEq] at h;obtain⟨rfl,rfl,rfl⟩:=h;refine⟨_,Env.np _ _ _,rfl,_,t,h4,JB _ _ _ _ _ _ _ ay,λ_=>⟨by rw[DC];exact Hn,by rw[DC];exact LR⟩,?_⟩;intro q e he;have ale:((els.drop i).take n).length=n:=by simp;omega
   by_cases bg:q<n
   ·rw[List.getElem?_append_left Z] at he;have lU:=Gz he;obtain⟨a0,bd⟩:=mL _ e lU;refine⟨a0,λj v bP=> ?_⟩;obtain⟨c_,x,af,jr⟩:=bd j v bP;refine⟨c_,x,?_,jr.mono hle⟩;have CX:j<esz:=by
     rcases Nat.lt_or_ge j e.length with h|h
     ·omega
     ·rw[List.getElem?_eq_none h] at bP;cases bP
    show(oX arr (loc.off+(i+n)*esz) news)[loc.off+i*esz+q*esz+j]? =some x;rw[Bo _ _ _ _ (by have:=DR (n:=esz) (show i+q<i+n by omega);rw[Nat.add_mul] at this;omega)];rw[show loc.off+i*esz+q*esz+j=loc.off+(i+q)*esz+j by rw[Nat.add_mul];omega];exact af
   ·rw[List.getElem?_append_right Z,ale] at he;refine⟨d1 e (List.mem_of_getElem? he),λj v bP=> ?_⟩;obtain⟨x,af,jr⟩:=d3.get _ _ (JS d1 he bP);refine⟨d2 e (List.mem_of_getElem? he) v (List.mem_of_getElem? bP),x,?_,jr.mono hle⟩;have apw:q-n<bU.length:=by
     rcases Nat.lt_or_ge (q-n) bU.length with h|h
     ·exact h
     ·rw[List.getElem?_eq_none h] at he;cases he
    have CX:j<esz:=by
     have:=d1 e (List.mem_of_getElem? he);rcases Nat.lt_or_ge j e.length with h|h
     ·omega
     ·rw[List.getElem?_eq_none h] at bP;cases bP
    have dS:=DR (n:=esz) apw;have sa:(i+n+bU.length)*esz=(i+n)*esz+bU.length*esz:=Nat.add_mul _ _ _;have:=GA news arr (loc.off+(i+n)*esz) ((q-n)*esz+j) x af Z;show(oX arr (loc.off+(i+n)*esz) news)[loc.off+i*esz+q*esz+j]? =some x;rw[show loc.off+i*esz+q*esz+j=loc.off+(i+n)*esz+((q-n)*esz+j) by
     have:q*esz=n*esz+(q-n)*esz:=by rw[<-Nat.add_mul];congr 1;omega
     rw[Nat.add_mul];omega]
    exact this
  ·by_cases iE:k=l
   ·subst iE;rw[Ej] at h;cases h
   ·rw[DJ k ah iE] at h;obtain⟨dB,dF,aU,c',wE,E7,aJ,bz,bK⟩:=ce.row _ _ _ _ h;have dK:=GW k dB (.inl ⟨_,_,_,h⟩) iE dF;refine⟨dB,by rw[Env.l3 ah];exact dF,aU,c',wE,E7,by rw[yA _ _ _ _ _ dK];exact aJ,bz,?_⟩;intro q e he;obtain⟨a0,bd⟩:=bK q e he;refine⟨a0,λj v bP=> ?_⟩;obtain⟨c_,x,af,jr⟩:=bd j v bP;exact⟨c_,x,af,jr.mono hle⟩
 ·intro k es h;by_cases ah:k=H.next
  ·subst ah;rw[K3] at h;cases h
  ·by_cases iE:k=l
   ·subst iE;rw[Ej] at h;cases h
   ·rw[DJ k ah iE] at h;obtain⟨dB,dF,ents,clock,aJ,bz,bK⟩:=ce.map _ _ h;have dK:=GW k dB (.inr ⟨_,h⟩) iE dF;exact⟨dB,by rw[Env.l3 ah];exact dF,ents,clock,by rw[yA _ _ _ _ _ dK];exact aJ,bz.mono hle,bK.mono hle⟩
 ·intro k fA nA o5 U aa dK aI bc;by_cases ah:k=H.next
  ·subst ah;rw[Env.np] at aI;obtain rfl:=Option.some.inj aI;obtain⟨hb,qn⟩:=DF fA aa (Ne.symm dK);rw[Env.l3 (Ne.symm dK)] at bc;exact(GW fA o5 hb qn bc).symm
  ·obtain⟨fr,jq⟩:=BJ k U ah;rw[Env.l3 ah] at aI;by_cases eZ:fA=H.next
   ·subst eZ;rw[Env.np] at bc;obtain rfl:=Option.some.inj bc;exact GW k nA fr.live jq aI
   ·obtain⟨hb,qn⟩:=DF fA aa eZ;rw[Env.l3 eZ] at bc;exact ce.apart k fA nA o5 fr hb dK aI bc
 ·intro b _ ja;refine yA _ _ _ _ _ ?_;rintro rfl;exact ja ⟨l,loc,.inl ⟨_,_,aX⟩,ax,rfl⟩
 ·rintro b ⟨k,dB,U,aa,ae⟩;by_cases ah:k=H.next
  ·subst ah;rw[Env.np] at aa;obtain rfl:=Option.some.inj aa;exact .inl ⟨l,loc,.inl ⟨_,_,aX⟩,ax,ae⟩
  ·obtain⟨fr,_⟩:=BJ k U ah;rw[Env.l3 ah] at aa;exact .inl ⟨k,dB,fr,aa,ae⟩
theorem Step.dead{cX:Env}{qW sS:J}{b5:World}(h:Step ρ H w cX qW b5)(aV:sS.next=qW.next)(aX: ∀k,sS.get k=qW.get k\/sS.get k=some .dead):Step ρ H w cX sS b5:=by
 have GV: ∀k ro esz els,sS.get k=some (.row ro esz els)->qW.get k=some (.row ro esz els):=λk ro esz els e=>by
  rcases aX k with h|h
  ·rw[<-h];exact e
  ·rw[h] at e;cases e
 have get_map: ∀k es,sS.get k=some (.map es)->qW.get k=some (.map es):=λk es e=>by
  rcases aX k with h|h
  ·rw[<-h];exact e
  ·rw[h] at e;cases e
 have j5: ∀k,sS.rw k->qW.rw k:=λk h=>by
  rcases h with⟨a,b,h⟩|⟨a,h⟩
  ·exact .inl ⟨a,b,GV _ _ _ _ h⟩
  ·exact .inr ⟨a,get_map _ _ h⟩
 have zD: ∀k,sS.live k->qW.live k:=λk h=>by
  rcases h with⟨a,b,c,h⟩|⟨a,h⟩
  ·exact .inl ⟨a,b,c,GV _ _ _ _ h⟩
  ·exact .inr ⟨a,get_map _ _ h⟩
 refine⟨h.le,by rw[aV];exact h.next,λl ax=>h.bo l (by rw[<-aV];exact ax),⟨λl ro esz els e=>h.rel.row l ro esz els (GV _ _ _ _ e),λl es e=>h.rel.map l es (get_map _ _ e),λl l' a b U aa=>h.rel.apart l l' a b (j5 _ U) (zD _ aa)⟩,h.os,h.tape,h.output,h.size,h.frame,?_,λk esz els e=>h.ro k esz els (GV _ _ _ _ e)⟩;rintro b ⟨l,loc,U,aa,ae⟩;exact h.own b ⟨l,loc,j5 _ U,aa,ae⟩
theorem aas(ce:Rel ρ H w){ts:List TypeId}{s x a:I}{s' el:Value}{H':J}(ty:TypeId)(h:fM P H ts s x=some (a,H'))(Nm:H.next<H'.next->ρ H.next=none)(aO:cT ρ s s')(af:cT ρ x el):
  ∃r b5 cX,(Builtin.append_ ts.toArray ty #[s',el]).run P w= .ok r b5/\cT cX a r/\Step ρ H w cX H' b5:=by
 unfold fM at h;split at h
 ·rename_i t jU;split at h
  ·rename_i e hu;split at h
   ·rename_i esz qf z fI r7 ct;split at h
    ·rename_i bU ao8;obtain⟨d1,d2,news,d3,ED⟩:=aa9 (P:=P) ce ao8 af;split at h
     ·rename_i wn;obtain⟨tg,oC⟩:=wn;have Wk:bU.length=0->Src P esz jU el 0 [] w:=λa6=>by
       have:bU=[]:=List.eq_nil_of_length_eq_zero a6;subst this;have:news=[]:=by cases d3;rfl
       subst this;simpa using ED
      split at h
      ·cases aO;split at h
       ·rename_i a6;simp only[bD,dz] at h;obtain⟨rfl,rfl⟩:=h;exact⟨_,_,_,PL w t jU ty e hu fI none 0 0 (bL _) el (Wk a6),.an,Step.refl ce⟩
       ·rename_i a6;split at h
        ·rename_i ay;simp only[bD,dz] at h;obtain⟨rfl,rfl⟩:=h;have ak:=Nm (by simp);have:=KI ce ak ty hu fI r7 ct tg oC d1 d2 d3 ED (os:=[]) (by simp) (by simp) (olds:=[]) (by simpa using dG.nil) none 0 0 rfl
          (run_firstCells_none w.drew esz 0 0 0) Z (by simpa using ay.1) (by simpa using ay.2)
         simpa using this
        ·cases h
      ·rename_i l i n qZ cap;split at h
       ·rename_i he;split at h
        ·rename_i a6;simp only[bD,dz] at h;obtain⟨rfl,rfl⟩:=h;cases aO with|aM _ _ _ _ loc AX c ax aV aS b1=>
         exact⟨_,_,_,PL w t jU ty e hu fI (some AX) n c aV el (Wk a6),.aM l i n cap loc AX c ax aV aS b1,Step.refl ce⟩
        ·rename_i a6;split at h
         ·rename_i ay;split at h
          ·rename_i os sb;cases aO with|aM _ _ _ _ loc AX c ax aV aS b1=>
           subst he;obtain⟨Ov,cZ,dk,olds,dJ,eL,iJ,wB⟩:=J3 ce sb ax;have hold:(Builtin.firstCells loc.esz n (.slice (some AX) n c)).run P w.drew= .ok olds.toArray w.drew:=by
            refine run_firstCells_some w.drew loc.esz n AX n c olds eL (λj u bP=> ?_);have Nh:0<c:=by
             rcases Nat.eq_zero_or_pos c with a6|a6
             ·have Fl:n=0:=Z;rw[Fl] at eL;have:olds=[]:=List.eq_nil_of_length_eq_zero (by simpa using eL);subst this;simp at bP
             ·exact a6
            obtain⟨rfl,_⟩:=b1 Nh;rw[addr_add];exact iJ j u bP
           split at h
           ·rename_i xM;simp only[bD,dz] at h;obtain⟨rfl,rfl⟩:=h;have ak:=Nm (by simp);have CT:c<n+bU.length:=by
             cases wc:cap with
             |none=>rw[wc] at xM;simp at xM
             |some k=>rw[wc] at xM;simp at xM;have:=aS k wc;omega
            exact KI ce ak ty hu fI r7 ct tg oC d1 d2 d3 ED cZ dk dJ (some AX) n c Ov hold CT ay.1 ay.2
           ·split at h
            ·rename_i arz;split at h
             ·rename_i nT aqS Fe;simp only[bD,dz] at h;obtain⟨rfl,rfl⟩:=h;have ak:=Nm (by simp);obtain⟨dB,dF,sU,arr,t0,h4,YO,uE,mL⟩:=ce.row _ _ _ _ Fe;obtain rfl:loc=dB:=Option.some.inj (ax.symm.trans dF);subst sU;unfold p4 at sb;rw[Fe] at sb;simp only[true_and] at sb;split at sb
              ·rename_i kP;simp only[bD] at sb;subst sb;by_cases LX:n+bU.length<=c
               ·obtain⟨rfl,Cu⟩:=b1 Z;obtain⟨Hn,LR⟩:=uE rfl;have pY:=acp ce ak Fe ax kP d1 d2 d3 (by
                 refine Nat.le_trans (Nat.add_le_add_left (Nat.mul_le_mul_right _ ?_) _) Cu;omega)
                have apo:news.length=bU.length*loc.esz:=by rw[<-d3.length,wG d1]
                have Xg: ∀j,j<news.length->loc.off+i*loc.esz+n*loc.esz+j<arr.size:=by
                 intro j bP;have U:(i+c)*loc.esz=i*loc.esz+c*loc.esz:=Nat.add_mul _ _ _;have aa:n*loc.esz+bU.length*loc.esz<=c*loc.esz:=by rw[<-Nat.add_mul];exact Nat.mul_le_mul_right _ LX
                 omega
                cases x7:P.info? e with
                |none=>unfold fq at fI;rw[x7] at fI;cases fI
                |some yx=>
                 have EA:yx.size=loc.esz:=by unfold fq at fI;rw[x7] at fI;simpa using fI
                 have oD:=run_append_room_src (P:=P) w t jU ty e yx hu x7 loc.block (loc.off+i*loc.esz) n c el bU.length news (by rw[EA];exact ED) LX
                  (λj bP=>by rw[EA];simp[World.cell?,YO,Xg j bP])
                  (λj bP=>by
                   rw[EA];have:=LR _ (Xg j bP);simp only[World.frozen?,YO];simpa using this)
                 rw[EA] at oD;refine⟨_,_,_,oD,?_,by rw[show loc.off+i*loc.esz+n*loc.esz=loc.off+(i+n)*loc.esz by rw[Nat.add_mul];omega];exact pY⟩;refine cT.aM (ρ:=ρ.iF H.next _) H.next 0 (n+bU.length) none ⟨loc.block,loc.off+i*loc.esz,loc.esz,loc.size⟩ _ c (Env.np _ _ _) LX (λk ah=>by cases ah) (λ_=>⟨by simp,?_⟩)
                 have U:(i+c)*loc.esz=i*loc.esz+c*loc.esz:=Nat.add_mul _ _ _;simp only[Nat.zero_add];omega
               ·
                 obtain⟨r,b5,cX,g1,g2,g3⟩:=KI ce ak ty hu fI r7 ct tg oC d1 d2 d3 ED cZ dk dJ (some AX) n c Ov hold Z ay.1 ay.2;refine⟨r,b5,cX,g1,g2,g3.dead (by simp) (λk=> ?_)⟩;have iP:=J.aW Fe;by_cases ah:k=H.next
                 ·subst ah;left;rw[J.ca];exact J.ca (H.set l .dead) _
                 ·by_cases iE:k=l
                  ·subst iE;right;rw[J.gy (by simpa using ah),J.get_set_same iP]
                  ·left;rw[J.gy (by simpa using ah),J.get_set_other (Ne.symm iE),J.gy ah]
              ·cases sb
             ·cases h
            ·cases h
          ·cases h
         ·cases h
       ·cases h
      ·cases h
     ·cases h
    ·cases h
   ·cases h
  ·cases h
 ·cases h
end
end
section
section
variable {P:Program}{ρ:Env}{H:J}{w:World}
def Mg(P:Program)(H:J)(t:TypeId)(x:I):Option I:=
 match P.underlying t,x with
 |some .string,.str s=>some (.int .i64 s.length)
 |some (.slice _),.aM _ _ n _ _=>some (.int .i64 n)
 |some (.slice _),.an=>some (.int .i64 0)
 |some (.array n _),_=>some (.int .i64 n)
 |some (.map _ _),.oW=>some (.int .i64 0)
 |some (.map _ _),.map l=>(match H.get l with|some (.map es)=>some (.int .i64 es.length)|_=>none)
 |_,_=>none
theorem J9{l:Nat}{es:List (I×I)}(ce:Rel ρ H w)(aX:H.get l=some (.map es)){loc:Loc}(ax:ρ l=some loc):
  ∃ents clock,w.heap[loc.block]? =some (.map ents clock)/\(getObj loc.block).run P w= .ok (.map ents clock) w/\dG ρ (es.map (·.1)) (ents.toList.map (·.key))/\dG ρ (es.map (·.2)) (ents.toList.map (·.val)):=by
 obtain⟨dB,dF,ents,clock,ay,U,aa⟩:=ce.map _ _ aX;obtain rfl:loc=dB:=Option.some.inj (ax.symm.trans dF);exact⟨ents,clock,ay,by simp[getObj,Sem.run,ay],U,aa⟩
theorem abR(ce:Rel ρ H w){t:TypeId}{x v:I}{el:Value}(ty:TypeId)(h:Mg P H t x=some v)(af:cT ρ x el): ∃r,(Builtin.len_ #[t] ty #[el]).run P w= .ok r w/\cT ρ v r:=by
 unfold Mg at h;split at h
 ·rename_i s hu;cases af;simp only[bD] at h;subst h;have aO:(⟨s.toArray⟩:ByteArray).size=s.length:=by show s.toArray.size=_;simp
  exact⟨_,by simp[Builtin.len_,run_underlying hu,goInt,aO],.int _ _⟩
 ·rename_i hu;cases af;simp only[bD] at h;subst h;exact⟨_,by simp[Builtin.len_,run_underlying hu,goInt],.int _ _⟩
 ·rename_i hu;cases af;simp only[bD] at h;subst h;exact⟨_,by simp[Builtin.len_,run_underlying hu,goInt],.int _ _⟩
 ·rename_i n e hu;simp only[bD] at h;subst h;exact⟨_,by simp[Builtin.len_,run_underlying hu,goInt],.int _ _⟩
 ·rename_i hu;cases af;simp only[bD] at h;subst h;exact⟨_,by simp[Builtin.len_,run_underlying hu,goInt],.int _ _⟩
 ·rename_i hu;cases af with|map _ loc ax=>
  split at h
  ·rename_i es aX;simp only[bD] at h;subst h;obtain⟨ents,clock,ay,ut,U,aa⟩:=J9 (P:=P) ce aX ax;have hlen:=U.length;simp only[List.length_map,Array.length_toList] at hlen;exact⟨_,by simp[Builtin.len_,run_underlying hu,goInt,ut,<-hlen],.int _ _⟩
  ·cases h
 ·cases h
def Hj(x y:I):Option I:=
 match x,y with
 | .int k a,.int _ b=>some (.int k (if a<b then b else a))
 |_,_=>none
def Hk(x y:I):Option I:=
 match x,y with
 | .int k a,.int _ b=>some (.int k (if b<a then b else a))
 |_,_=>none
theorem abS{x y v:I}{el jf:Value}(ts:Array TypeId)(ty:TypeId)(h:Hj x y=some v)(af:cT ρ x el)(cR:cT ρ y jf)(w:World): ∃r,(Builtin.max_ ts ty #[el,jf]).run P w= .ok r w/\cT ρ v r:=by
 unfold Hj at h;split at h
 ·cases af;cases cR;simp only[bD] at h;subst h;exact⟨_,by simp[Builtin.max_,Builtin.max2],.int _ _⟩
 ·cases h
theorem abT{x y v:I}{el jf:Value}(ts:Array TypeId)(ty:TypeId)(h:Hk x y=some v)(af:cT ρ x el)(cR:cT ρ y jf)(w:World): ∃r,(Builtin.min_ ts ty #[el,jf]).run P w= .ok r w/\cT ρ v r:=by
 unfold Hk at h;split at h
 ·cases af;cases cR;simp only[bD] at h;subst h;exact⟨_,by simp[Builtin.min_,Builtin.min2],.int _ _⟩
 ·cases h
def gf(x:I)(i:Nat):Option I:=
 match x with
 | .tuple cm=>cm[i]?
 |_=>none
theorem aal{x v:I}{el:Value}{i:Nat}(h:gf x i=some v)(af:cT ρ x el)(w:World): ∃r,(Instr.extract el i).run P w= .ok r w/\cT ρ v r:=by
 unfold gf at h;split at h
 ·cases af with|tuple _ xs aO=>
  obtain⟨r,a7,bw⟩:=aO.get _ _ h;exact⟨r,by simp[Instr.extract,a7],bw⟩
 ·cases h
def Cb(P:Program)(src dst:TypeId)(x:I):Option I:=
 match P.underlying src,P.underlying dst,x with
 |some _,some (.int k),.int _ n=>some (.int k (k.wrap n))
 |some _,some .string,.str s=>some (.str s)
 |_,_,_=>none
theorem aa5{src dst:TypeId}{x v:I}{el:Value}(h:Cb P src dst x=some v)(af:cT ρ x el)(w:World): ∃r,(convert src dst el).run P w= .ok r w/\cT ρ v r:=by
 unfold Cb at h;split at h
 ·rename_i aO bb;cases af;simp only[bD] at h;subst h;exact⟨_,by simp[convert,run_underlying aO,run_underlying bb,Conv.intToInt],.int _ _⟩
 ·rename_i aO bb;cases af;simp only[bD] at h;subst h;exact⟨_,by simp[convert,run_underlying aO,run_underlying bb],.str _⟩
 ·cases h
def byteOf:List I->Option UInt8
 |[.int .u8 n]=>some (UInt8.ofNat n.toNat)
 |_=>none
def bytesOf:List (List I)->Option (List UInt8)
 |[]=>some []
 |e::r=>match byteOf e,bytesOf r with
  |some b,some l=>some (b::l)
  |_,_=>none
def Dy(P:Program)(H:J)(src dst:TypeId)(x:I):Option I:=
 match P.underlying src,P.underlying dst,x with
 |some (.slice e),some .string,.aM l i n esz _=>
  (match P.underlying e,p4 H l i n esz with
  |some (.int .u8),some bU=>if esz=1 then(bytesOf bU).map .str else none
  |_,_=>none)
 |some (.slice e),some .string,.an=>(match P.underlying e with|some (.int .u8)=>some (.str [])|_=>none)
 |_,_,_=>none
theorem P_(f:Value->ByteArray->Sem (ForInStep ByteArray))(ak: ∀n s,f (.int .u8 n) s=pure (ForInStep.yield (s.push (UInt8.ofNat n.toNat)))): ∀(bU:List (List I)) (jd:List UInt8),bytesOf bU=some jd-> ∀(xs:List Value),dG ρ bU.flatten xs-> ∀(acc:ByteArray),
  (forIn xs acc f).run P w= .ok (acc++⟨jd.toArray⟩) w
 |[],jd,h,xs,af,acc=>by
  simp[bytesOf] at h;subst h;cases af;have:acc++(⟨#[]⟩:ByteArray)=acc:=by apply ByteArray.ext;simp
  simp[Sem.run_pure,this]
 |d::bU,jd,h,xs,af,acc=>by
  unfold bytesOf at h;split at h
  ·rename_i b l ay ax;simp only[bD] at h;subst h;unfold byteOf at ay;split at ay
   ·rename_i n;simp only[bD] at ay;subst ay;cases af with|cons _ x _ uS dt cK=>
    cases dt;have aT:=P_ f ak bU l ax uS cK (acc.push (UInt8.ofNat n.toNat));rw[List.forIn_cons];simp only[Sem.run_bind,ak,Sem.run_pure,Result.andThen_ok];rw[aT]
    congr 1
    apply ByteArray.ext;simp
   ·cases ay
  ·cases h
theorem aae(ce:Rel ρ H w){src dst:TypeId}{x v:I}{el:Value}(h:Dy P H src dst x=some v)(af:cT ρ x el): ∃r,(convert src dst el).run P w= .ok r w/\cT ρ v r:=by
 unfold Dy at h;split at h
 ·rename_i e l i n esz cap aO bb;split at h
  ·rename_i bU he Mo;split at h
   ·rename_i U;simp only[Option.map_eq_some_iff] at h;obtain⟨jd,ao2,rfl⟩:=h;cases af with|aM _ _ _ _ loc a c ax aV aS b1=>
    obtain⟨Ov,cZ,dk,xs,dJ,eL,iJ,wB⟩:=J3 ce Mo ax;refine⟨.string ⟨jd.toArray⟩,?_,.str _⟩;have alf:(loadCells a n).run P w= .ok xs.toArray w:=by
     rw[U,Nat.mul_one] at eL;rw[<-eL];refine run_loadCells_list w a xs (λj u bP=> ?_);have Nh:0<c:=by
      rcases Nat.eq_zero_or_pos c with a6|a6
      ·have Fl:n=0:=Z;have:xs=[]:=List.eq_nil_of_length_eq_zero Z;subst this;simp at bP
      ·exact a6
     obtain⟨rfl,_⟩:=b1 Nh;rw[addr_add];exact iJ j u bP
    have anx:ByteArray.empty++(⟨jd.toArray⟩:ByteArray)=⟨jd.toArray⟩:=by apply ByteArray.ext;simp
    simp only[convert,Sem.run_bind,run_underlying aO,run_underlying bb,run_underlying he,Result.andThen_ok,Conv.bytesToString,alf];rw[<-Array.forIn_toList];show((Sem.run P (forIn xs ByteArray.empty _) w).andThen _)=_;rw[P_ (P:=P) (w:=w) _ (λ_ _=>rfl) bU jd ao2 xs dJ ByteArray.empty,anx];rfl
   ·cases h
  ·cases h
 ·rename_i e aO bb;cases af;split at h
  ·rename_i he;simp only[bD] at h;subst h;exact⟨.string ⟨#[]⟩,by simp[convert,run_underlying aO,run_underlying bb,run_underlying he,Conv.bytesToString];rfl,.str []⟩
  ·cases h
 ·cases h
def Gj(P:Program)(H:J)(t:TypeId)(l c:I):Option (I×J):=
 match P.underlying t,l,c with
 |some (.slice e),.int cS n,.int dq m=>
  (match fq P e,rA P e,jZ P e with
  |some fZ,some qf,some z=>
   if cS= .i64/\dq= .i64/\0<=n/\n<=m/\m<=9223372036854775807/\(qf:Int)*m<=281474976710656/\z.cells.length=fZ/\0<fZ/\z.cells.all I.one=true then
    some (.aM H.next 0 n.toNat fZ (some m.toNat),H.push (.row false fZ (List.replicate m.toNat z.cells)))
   else none
  |_,_,_=>none)
 |_,_,_=>none
theorem wrap_i64{n:Int}(a6:0<=n)(U:n<=9223372036854775807):IntKind.i64.wrap n=n:=IntWalk.i64_in n ⟨Z,Z⟩
theorem aah(ce:Rel ρ H w)(ak:ρ H.next=none){t:TypeId}{l c a:I}{l' c':Value}{H':J}(h:Gj P H t l c=some (a,H'))(ax:cT ρ l l')(aS:cT ρ c c'):
  ∃r b5 cX,(Instr.makeSlice t l' c').run P w= .ok r b5/\cT cX a r/\Step ρ H w cX H' b5:=by
 unfold Gj at h;split at h
 ·rename_i e cS n dq m hu;cases ax;cases aS;split at h
  ·rename_i fZ qf z fI r7 ct;split at h
   ·rename_i l9;obtain⟨rfl,rfl,a6,U,aa,ae,tg,oC,dL⟩:=l9;simp only[bD,dz] at h;obtain⟨rfl,rfl⟩:=h;obtain⟨iT,sf,uI⟩:=Bg ct w;have lF: ∀u∈z.cells,u.one=true:=by simpa using dL
    have wn:=(uI ρ).cells;have uH:iT.cells.size=fZ:=by have:=wn.length;rw[<-tg,this];simp
    have Mw:=dG.Jq wn m.toNat;have aO:=Gc ce ak (esz:=fZ) (els:=List.replicate m.toNat z.cells) (λe he=>by rw[List.eq_of_mem_replicate he];exact tg)
     (λe he=>by rw[List.eq_of_mem_replicate he];exact lF) Mw (tail:=[]) e
    cases x7:P.info? e with
    |none=>unfold fq at fI;rw[x7] at fI;cases fI
    |some yx=>
     have EA:yx.size=fZ:=by unfold fq at fI;rw[x7] at fI;simpa using fI
     have anA:yx.bytes=qf:=by unfold rA at r7;rw[x7] at r7;simpa using r7
     have hlen:(List.replicate m.toNat iT.cells.toList).flatten.length=m.toNat*fZ:=by simp[uH]
     refine⟨.slice (some ⟨w.heap.size,0,none⟩) n.toNat m.toNat,_,_,?_,?_,aO⟩
     ·have apJ:=wrap_i64 a6 (Int.le_trans U aa);have apK:=wrap_i64 (Int.le_trans a6 U) aa;have ara: ¬(m<0\/281474976710656<(qf:Int)*m):=Z;have hzero:=SG iT.cells m.toNat Z;rw[uH] at hzero;simp only[Instr.makeSlice,Sem.run_bind,run_underlying hu,Result.andThen_ok,asInt,asIntOf,Sem.run_pure,typeInfo,x7,anA,apJ,apK,run_program];rw[if_neg (by simp;omega)];simp only[Sem.run_bind,run_askRoom,Result.andThen_ok,run_sizeOf fI];by_cases Fj:m.toNat*fZ=0
      ·simp only[Fj,if_true];have sa:m.toNat=0:=by rcases Nat.mul_eq_zero.1 Fj with h|h<;>omega
       have bY:Array.range 0= #[]:=rfl;simp[newRow,bY,sa]
      ·simp only[Fj,if_false,Sem.run_bind,sf,Result.andThen_ok,Sem.run_pure,uH,hzero];simp[newRow]
     ·refine cT.aM (ρ:=ρ.iF H.next _) H.next 0 n.toNat (some m.toNat) ⟨w.heap.size,0,fZ,_⟩ _ m.toNat (Env.np _ _ _) Z (by simp) (λ_=>⟨by simp,?_⟩)
      simp only[Nat.zero_add,hlen];simp
   ·cases h
  ·cases h
 ·cases h
end
end
section
section
variable {P:Program}{ρ:Env}{H:J}{w:World}
def u5(d:TypeDesc)(a b:I):Option Bool:=
 match d,a,b with
 | .int _,.int k x,.int fA y=>if k=fA then some (x==y) else none
 | .string,.str x,.str y=>some (x==y)
 | .bool,.bool x,.bool y=>some (x==y)
 |_,_,_=>none
def pX(d:TypeDesc)(k:I):List (I×I)->Nat->Option (Option (Nat×I))
 |[],_=>some none
 |e::es,i=>match u5 d k e.1 with
  |some true=>some (some (i,e.2))
  |some false=>pX d k es (i+1)
  |none=>none
theorem O3{d:TypeDesc}{a b:I}{er fK:Value}{r:Bool}(h:u5 d a b=some r)(b1:cT ρ a er)(ay:cT ρ b fK):Instr.sameNow d er fK=some r:=by
 unfold u5 at h;split at h
 ·cases b1;cases ay;split at h
  ·rename_i ah;subst ah;simpa [Instr.sameNow] using h
  ·cases h
 ·cases b1;cases ay;simp only[bD] at h;subst h;simp[Instr.sameNow,Lf]
 ·cases b1;cases ay;simpa [Instr.sameNow] using h
 ·cases h
inductive Mf(ρ:Env):Option (Nat×I)->Option (Nat×Value)->Prop where
 |none:Mf ρ none none
 |some (i:Nat) (v:I) (x:Value) (h:cT ρ v x):Mf ρ (some (i,v)) (some (i,x))
theorem Dz{d:TypeDesc}{k:I}{fA:Value}(ah:cT ρ k fA): ∀(es:List (I×I)) (ents:List MapEntry) (i:Nat) (r:Option (Nat×I)),pX d k es i=some r->
  dG ρ (es.map (·.1)) (ents.map (·.key))->dG ρ (es.map (·.2)) (ents.map (·.val))-> ∃hH,Instr.findNow d fA ents i=some hH/\Mf ρ r hH/\ ∀j v,r=some (j,v)->i<=j/\j<i+es.length/\ ∃e,es[j-i]? =some e/\u5 d k e.1=some true
 |[],ents,i,r,h,U,aa=>by
  simp[pX] at h;subst h;have:ents=[]:=by
   have:=U.length;simp at this;exact List.eq_nil_of_length_eq_zero this.symm
  subst this;exact⟨none,rfl,.none,λj v h=>by cases h⟩
 |e::es,[],i,r,h,U,aa=>by have:=U.length;simp at this
 |e::es,m::ents,i,r,h,U,aa=>by
  simp only[List.map_cons] at U aa;cases U with|cons _ _ _ _ bd c_=>
  cases aa with|cons _ _ _ _ a2 cD=>
  unfold pX at h;unfold Instr.findNow;split at h
  ·rename_i aO;simp only[bD] at h;subst h;rw[O3 aO ah bd];exact⟨_,rfl,.some i _ _ a2,λj v bP=>by
    simp only[bD,dz] at bP;obtain⟨rfl,_⟩:=bP;exact⟨bL _,by simp,e,by simp,aO⟩⟩
  ·rename_i aO;rw[O3 aO ah bd];obtain⟨hH,ae,al,aB⟩:=Dz ah es ents (i+1) r h c_ cD;refine⟨hH,ae,al,λj v bP=> ?_⟩;obtain⟨aU,aJ,cC,bz,bK⟩:=aB j v bP;refine⟨Z,by simp;omega,cC,?_,bK⟩;rw[show j-i=(j-(i+1))+1 by omega];simpa using bz
  ·cases h
def plainKey(d:TypeDesc):Bool:=
 match d with
 | .int _| .string| .bool=>true
 |_=>false
theorem Jv{t:TypeId}{d:TypeDesc}(hu:P.underlying t=some d)(bA:plainKey d=true)(empty:Bool)(v:Value)(n:Nat)(w:World):(Instr.checkKey empty (n+1) t v).run P w= .ok () w:=by
 unfold Instr.checkKey;simp only[Sem.run_bind,run_underlying hu,Result.andThen_ok];cases d<;>simp[plainKey] at bA<;>rfl
def n1(P:Program)(H:J)(t:TypeId)(x k:I)(SL:Bool):Option I:=
 match P.underlying t with
 |some (.map F5 Oi)=>
  (match P.underlying F5,jZ P Oi with
  |some d,some z=>
   if plainKey d=true then
    (match(match x with| .oW=>some []| .map l=>(match H.get l with|some (.map es)=>some es|_=>none)|_=>none) with
    |some es=>
     (match pX d k es 0 with
     |some (some (_,v))=>some (if SL then .tuple [v,.bool true] else v)
     |some none=>some (if SL then .tuple [z,.bool false] else z)
     |none=>none)
    |none=>none)
   else none
  |_,_=>none)
 |_=>none
theorem aau(ce:Rel ρ H w){t:TypeId}{x k v:I}{el fA:Value}{ok:Bool}(h:n1 P H t x k ok=some v)(af:cT ρ x el)(ah:cT ρ k fA):
  ∃r,(Instr.lookup t el fA ok).run P w= .ok r w/\cT ρ v r:=by
 unfold n1 at h;split at h
 ·rename_i F5 Oi hu;split at h
  ·rename_i d z bb ct;split at h
   ·rename_i bA;split at h
    ·rename_i es uD;obtain⟨iT,sf,uI⟩:=Bg ct w;have alc: ∃ents:Array MapEntry,dG ρ (es.map (·.1)) (ents.toList.map (·.key))/\dG ρ (es.map (·.2)) (ents.toList.map (·.val))/\
       ∀hH:Option (Nat×Value),Instr.findNow d fA ents.toList 0=some hH->(Instr.lookup t el fA ok).run P w=
       .ok (match hH with|some (_,v)=>(if ok then .tuple #[v,.bool true] else v)|none=>(if ok then .tuple #[iT,.bool false] else iT)) w:=by
      split at uD
      ·cases af;simp only[bD] at uD;subst uD;refine⟨#[],by simpa using dG.nil,by simpa using dG.nil,λhH iQ=> ?_⟩;unfold Instr.lookup;simp only[Sem.run_bind,run_underlying hu,Result.andThen_ok,Sem.run_pure];rw[Jv bb bA];simp only[Result.andThen_ok,Instr.findKey,Sem.run_bind,run_underlying bb,iQ,Sem.run_pure];cases hH with
       |none=>simp[sf]
       |some p=>obtain⟨i,v⟩:=p;simp
      ·cases af with|map l loc ax=>
       split at uD
       ·rename_i es' aX;simp only[bD] at uD;subst uD;obtain⟨ents,clock,ay,ut,U,aa⟩:=J9 (P:=P) ce aX ax;refine⟨ents,U,aa,λhH iQ=> ?_⟩;unfold Instr.lookup;simp only[Sem.run_bind,run_underlying hu,Result.andThen_ok,Sem.run_pure,ut];rw[Jv bb bA];simp only[Result.andThen_ok,Instr.findKey,Sem.run_bind,run_underlying bb,iQ,Sem.run_pure];cases hH with
        |none=>simp[sf]
        |some p=>obtain⟨i,v⟩:=p;simp
       ·cases uD
      ·cases uD
     obtain⟨ents,U,aa,Wj⟩:=alc;split at h
     ·rename_i i dr ak;simp only[bD] at h;subst h;obtain⟨hH,aI,bc,_⟩:=Dz ah es ents.toList 0 _ ak U aa;cases bc with|some _ _ y cR=>
      refine⟨_,Wj _ aI,?_⟩;cases ok
      ·exact cR
      ·exact .tuple _ [y,.bool true] (.cons _ _ _ _ cR (.cons _ _ _ _ (.bool _) .nil))
     ·rename_i ak;simp only[bD] at h;subst h;obtain⟨hH,aI,bc,_⟩:=Dz ah es ents.toList 0 _ ak U aa;cases bc;refine⟨_,Wj _ aI,?_⟩;cases ok
      ·exact uI ρ
      ·exact .tuple _ [iT,.bool false] (.cons _ _ _ _ (uI ρ) (.cons _ _ _ _ (.bool _) .nil))
     ·cases h
    ·cases h
   ·cases h
  ·cases h
 ·cases h
def KE(H:J):I×J:=(.map H.next,H.push (.map []))
theorem aam(ce:Rel ρ H w)(ak:ρ H.next=none)(t:TypeId): ∃r b5 cX,(Instr.makeMap t none).run P w= .ok r b5/\cT cX (KE H).1 r/\Step ρ H w cX (KE H).2 b5:=by
 have aO:=Kf ce ak (.map []) rfl (.map #[] 0) ⟨w.heap.size,0,0,0⟩ rfl (λ_ _ _ h=>by cases h) (λes h=>by
  simp only[dZ.map.injEq] at h;subst h;exact⟨#[],0,heap_alloc_new _ _,by simpa using dG.nil,by simpa using dG.nil⟩)
 refine⟨.map (some w.heap.size),_,_,?_,.map H.next ⟨w.heap.size,0,0,0⟩ (Env.np _ _ _),aO⟩;simp[Instr.makeMap]
theorem PO(ce:Rel ρ H w){l:Nat}{es es':List (I×I)}(aX:H.get l=some (.map es)){loc:Loc}(ax:ρ l=some loc){ents:Array MapEntry}{clock:Nat}
  (U:dG ρ (es'.map (·.1)) (ents.toList.map (·.key))) (aa:dG ρ (es'.map (·.2)) (ents.toList.map (·.val))):
  Step ρ H w ρ (H.set l (.map es')) {w with heap:=w.heap.setIfInBounds loc.block (.map ents clock)}:=by
 have eo:=J.aW aX;obtain⟨dB,dF,aqI,aqF,ay,_,_⟩:=ce.map _ _ aX;obtain rfl:loc=dB:=Option.some.inj (ax.symm.trans dF);have ann:=sr ay;have BW: ∀k,k≠loc.block->({w with heap:=w.heap.setIfInBounds loc.block (.map ents clock)}:World).heap[k]? =w.heap[k]? :=λk ah=>by
  show(w.heap.setIfInBounds loc.block _)[k]? =_;rw[Array.getElem?_setIfInBounds,if_neg (Ne.symm ah)]
 have dK: ∀l' dB,H.live l'->l'≠l->ρ l'=some dB->dB.block≠loc.block:=λl' dB h bZ e heq=>
  ce.apart l l' loc dB (.inr ⟨_,aX⟩) h (Ne.symm bZ) ax e heq.symm
 have j5: ∀l',(H.set l (.map es')).rw l'->H.rw l':=by
  intro l' h;by_cases iP:l=l'
  ·subst iP;exact .inr ⟨_,aX⟩
  ·simpa [J.rw,J.get_set_other iP] using h
 have zD: ∀l',(H.set l (.map es')).live l'->H.live l':=by
  intro l' h;by_cases iP:l=l'
  ·subst iP;exact .inr ⟨_,aX⟩
  ·simpa [J.live,J.get_set_other iP] using h
 refine⟨ρ.le_refl,bL _,λ_ _=>rfl,⟨?_,?_,?_⟩,rfl,rfl,rfl,by simp,?_,?_,J.VO rfl⟩
 ·intro l' AE qZ me h;by_cases iP:l=l'
  ·subst iP;rw[J.get_set_same eo] at h;cases h
  ·rw[J.get_set_other iP] at h;obtain⟨dB,dF,aU,c',wE,E7,aJ,bz,bK⟩:=ce.row _ _ _ _ h;exact⟨dB,dF,aU,c',wE,E7,by rw[BW _ (dK l' dB (.inl ⟨_,_,_,h⟩) (Ne.symm iP) dF)];exact aJ,bz,bK⟩
 ·intro l' ars h;by_cases iP:l=l'
  ·subst iP;rw[J.get_set_same eo] at h;simp only[bD,dZ.map.injEq] at h;subst h;refine⟨loc,ax,ents,clock,?_,U,aa⟩;show(w.heap.setIfInBounds loc.block _)[loc.block]? =_;rw[Array.getElem?_setIfInBounds,if_pos rfl,if_pos ann]
  ·rw[J.get_set_other iP] at h;obtain⟨dB,dF,ak5,aik,aJ,bz⟩:=ce.map _ _ h;exact⟨dB,dF,ak5,aik,by rw[BW _ (dK l' dB (.inr ⟨_,h⟩) (Ne.symm iP) dF)];exact aJ,bz⟩
 ·intro eI fB nA o5 U aa dK aI bc;exact ce.apart eI fB nA o5 (j5 _ U) (zD _ aa) dK aI bc
 ·intro b _ ja;refine BW b ?_;rintro rfl;exact ja ⟨l,loc,.inr ⟨_,aX⟩,ax,rfl⟩
 ·rintro b ⟨l',dB,U,aa,ae⟩;exact .inl ⟨l',dB,j5 _ U,aa,ae⟩
def jg(P:Program)(H:J)(t:TypeId)(m k v:I):Option J:=
 match P.underlying t,m with
 |some (.map F5 _),.map l=>
  (match P.underlying F5,H.get l with
  |some d,some (.map es)=>
   if plainKey d=true then
    (match pX d k es 0 with
    |some (some (i,_))=>some (H.set l (.map (es.set i (k,v))))
    |some none=>some (H.set l (.map (es++[(k,v)])))
    |none=>none)
   else none
  |_,_=>none)
 |_,_=>none
theorem aaZ{d:TypeDesc}{a b:I}{er fK:Value}(h:u5 d a b=some true)(b1:cT ρ a er)(ay:cT ρ b fK)(n:Nat):Instr.sameBits (n+1) fK er=true:=by
 unfold u5 at h;split at h
 ·cases b1;cases ay;split at h
  ·rename_i ah;subst ah;simp at h;subst h;simp[Instr.sameBits]
  ·cases h
 ·cases b1;cases ay;simp at h;subst h;simp[Instr.sameBits,Lf]
 ·cases b1;cases ay;simp at h;subst h;simp[Instr.sameBits]
 ·cases h
theorem abw(es:List (I×I))(i:Nat)(k v:I):(es.set i (k,v)).map (·.1)=(es.map (·.1)).set i k:=by simp[List.map_set]
theorem abx(es:List (I×I))(i:Nat)(k v:I):(es.set i (k,v)).map (·.2)=(es.map (·.2)).set i v:=by simp[List.map_set]
theorem OD(ce:Rel ρ H w){t:TypeId}{m k v:I}{fp fA dr:Value}{H':J}(h:jg P H t m k v=some H')(hm:cT ρ m fp)(ah:cT ρ k fA)(bw:cT ρ v dr):
  ∃b5,(Instr.mapUpdate t fp fA dr).run P w= .ok () b5/\Step ρ H w ρ H' b5:=by
 unfold jg at h;split at h
 ·rename_i F5 Oi l hu;cases hm with|map _ loc ax=>
  split at h
  ·rename_i d es bb aX;split at h
   ·rename_i bA;obtain⟨ents,clock,ay,ut,U,aa⟩:=J9 (P:=P) ce aX ax;have Xp: ∀o:Obj,(setObj loc.block o).run P w= .ok () {w with heap:=w.heap.setIfInBounds loc.block o}:=λo=>by simp[setObj,Sem.run,ay]
    have Xk: ∀hH,Instr.findNow d fA ents.toList 0=some hH->(Instr.mapUpdate t (.map (some loc.block)) fA dr).run P w=
      (match hH with
       |some (i,_)=>(do
        let key<-Instr.keyThatStays (((ents[i]?).map (·.key)).getD fA) fA
        setObj loc.block (.map (ents.modify i λe=>{e with key,val:=dr}) clock):Sem Unit).run P w
       |none=>(setObj loc.block (.map (ents.push {key:=fA,val:=dr,born:=clock}) (clock+1))).run P w):=by
     intro hH iQ;unfold Instr.mapUpdate;simp only[Sem.run_bind,run_underlying hu,Result.andThen_ok,ut];rw[Jv bb bA];simp only[Result.andThen_ok,Instr.findKey,Sem.run_bind,run_underlying bb,iQ,Sem.run_pure];cases hH with
     |none=>rfl
     |some p=>obtain⟨i,v⟩:=p;simp only[Sem.run_bind]
    split at h
    ·rename_i i v0 ak;simp only[bD] at h;subst h;obtain⟨hH,aI,bc,dm⟩:=Dz ah es ents.toList 0 _ ak U aa;cases bc with|some _ _ y cR=>
     obtain⟨_,be,e,he,aO⟩:=dm i v0 rfl;simp only[Nat.sub_zero,Nat.zero_add] at he be;have hlen:=U.length;simp only[List.length_map,Array.length_toList] at hlen;have x8:i<ents.size:=Z;obtain⟨ZZ,apg,Ip⟩:=U.get i e.1 (by simp[he]);have anD:ents[i].key=ZZ:=by simpa [x8] using apg
     have alk:(Instr.keyThatStays (((ents[i]?).map (·.key)).getD fA) fA).run P w= .ok fA w:=by
      unfold Instr.keyThatStays;have:((ents[i]?).map (·.key)).getD fA=ZZ:=by simp[x8,anD]
      rw[this,if_pos (aaZ aO ah Ip 9999)];rfl
     refine⟨_,?_,PO ce aX ax (es':=es.set i (k,v)) (ents:=ents.modify i λe=>{e with key:=fA,val:=dr}) (clock:=clock) ?_ ?_⟩
     ·rw[Xk _ aI];simp only[Sem.run_bind,alk,Result.andThen_ok];exact Xp _
     ·rw[abw];have:(ents.modify i λe=>{e with key:=fA,val:=dr}).toList.map (·.key)=(ents.toList.map (·.key)).set i fA:=by
       apply List.ext_getElem?;intro j;by_cases bP:i=j
       ·subst bP;simp[x8]
       ·simp[bP]
      rw[this];exact U.set ah i
     ·rw[abx];have:(ents.modify i λe=>{e with key:=fA,val:=dr}).toList.map (·.val)=(ents.toList.map (·.val)).set i dr:=by
       apply List.ext_getElem?;intro j;by_cases bP:i=j
       ·subst bP;simp[x8]
       ·simp[bP]
      rw[this];exact aa.set bw i
    ·rename_i ak;simp only[bD] at h;subst h;obtain⟨hH,aI,bc,dm⟩:=Dz ah es ents.toList 0 _ ak U aa;cases bc;refine⟨_,?_,PO ce aX ax (es':=es++[(k,v)]) (ents:=ents.push {key:=fA,val:=dr,born:=clock}) (clock:=clock+1) ?_ ?_⟩
     ·rw[Xk _ aI];exact Xp _
     ·simpa using U.append (.cons _ _ _ _ ah .nil)
     ·simpa using aa.append (.cons _ _ _ _ bw .nil)
    ·cases h
   ·cases h
  ·cases h
 ·cases h
end
end
section
structure ck where
 t:dd I
 size:Nat
def ck.get(R:ck)(d:Nat):I:=match R.t.get d with
 |some v=>v
 |none=> .tuple []
def ck.put(R:ck)(dst:Option Nat)(v:I):Option ck:=match dst with
 |none=>some R
 |some d=>if d<R.size then some {R with t:=dd.put v (d+1) R.t d} else none
structure hp(ρ:Env)(R:ck)(a:Act):Prop where
 size:R.size=a.tmps.size
 get: ∀d,cT ρ (R.get d) (a.tmps.getD d undef)
 none:a.defers=[]
theorem hp.mono{ρ cX:Env}{R:ck}{a:Act}(h:hp ρ R a)(hle:ρ.le cX):hp cX R a:=⟨h.size,λd=>(h.get d).mono hle,h.none⟩
theorem ck.DV{R cj:ck}{dst:Option Nat}{v:I}(h:R.put dst v=some cj)(d:Nat):cj.get d=if dst=some d then v else R.get d:=by
 cases dst with
 |none=>simp only[ck.put,bD] at h;subst h;simp
 |some e=>
  simp only[ck.put] at h;split at h
  ·simp only[bD] at h;subst h;by_cases he:e=d
   ·subst he;simp[ck.get,dd.Ds v (e+1) R.t e Z]
   ·have:(some e=some d)=False:=by simp[he]
    simp[ck.get,dd.Dp v (e+1) R.t e d he,he]
  ·cases h
theorem ck.BK{R cj:ck}{dst:Option Nat}{v:I}(h:R.put dst v=some cj):cj.size=R.size:=by
 cases dst with
 |none=>simp only[ck.put,bD] at h;subst h;rfl
 |some e=>
  simp only[ck.put] at h;split at h
  ·simp only[bD] at h;subst h;rfl
  ·cases h
theorem ck.VK{R cj:ck}{d:Nat}{v:I}(h:R.put (some d) v=some cj):d<R.size:=by
 simp only[ck.put] at h;split at h
 ·assumption
 ·cases h
theorem hp.put{ρ:Env}{R cj:ck}{a:Act}{dst:Option Nat}{v:I}{x:Value}(h:hp ρ R a)(bA:R.put dst v=some cj)(bw:cT ρ v x):hp ρ cj (a.put dst x):=by
 refine⟨?_,λd=> ?_,?_⟩
 ·rw[ck.BK bA,h.size];cases dst<;>simp[Act.put]
 ·rw[ck.DV bA];cases dst with
  |none=>simpa [Act.put] using h.get d
  |some e=>
   have eo:=ck.VK bA;rw[h.size] at eo;by_cases he:e=d
   ·subst he;simpa [Act.put,eo] using bw
   ·have:=h.get d;simp only[bD,he,if_false,Act.put,Array.getD_eq_getD_getElem?,Array.getElem?_setIfInBounds];simpa using this
 ·cases dst<;>simpa [Act.put] using h.none
def ew(R:ck):Operand->Option I
 | .tmp t=>some (R.get t)
 | .const v=>Eo v
 | .global _=>none
 | .func f=>some (.func (.func f) [] [])
section
variable {P:Program}{ρ:Env}{H:J}{w:World}{R:ck}{a:Act}
theorem gO(a7:hp ρ R a){x:Operand}{v:I}(h:ew R x=some v):cT ρ v (a.eval x):=by
 cases x with
 |tmp t=>simp only[ew,bD] at h;subst h;exact a7.get t
 |const c=>exact JU h ρ
 |global g=>cases h
 |func f=>simp only[ew,bD] at h;subst h;exact .func (.func f) [] [] [] [] .nil .nil
def ow(R:ck):List Operand->Option (List I)
 |[]=>some []
 |x::xs=>match ew R x,ow R xs with
  |some v,some cm=>some (v::cm)
  |_,_=>none
theorem Bf(a7:hp ρ R a): ∀{xs:List Operand} {cm:List I},ow R xs=some cm->dG ρ cm (xs.map a.eval)
 |[],cm,h=>by simp only[ow,bD] at h;subst h;exact .nil
 |x::xs,cm,h=>by
  simp only[ow] at h;split at h
  ·rename_i v FR bw tf;simp only[bD] at h;subst h;exact .cons _ _ _ _ (gO a7 bw) (Bf a7 tf)
  ·cases h
def qM(R:ck):List (Nat×Operand)->Option (List (Nat×I))
 |[]=>some []
 |(i,x)::xs=>match ew R x,qM R xs with
  |some v,some cm=>some ((i,v)::cm)
  |_,_=>none
theorem JE(a7:hp ρ R a): ∀{xs:List (Nat×Operand)} {cm:List (Nat×I)},qM R xs=some cm->Co ρ cm (xs.map λ(i,x)=>(i,a.eval x))
 |[],cm,h=>by simp only[qM,bD] at h;subst h;exact trivial
 |(i,x)::xs,cm,h=>by
  simp only[qM] at h;split at h
  ·rename_i v FR bw tf;simp only[bD] at h;subst h;exact⟨rfl,gO a7 bw,JE a7 tf⟩
  ·cases h
def sM(R:ck):Option Operand->Option (Option I)
 |none=>some none
 |some x=>match ew R x with
  |some v=>some (some v)
  |none=>none
theorem JP(a7:hp ρ R a){x:Option Operand}{v:Option I}(h:sM R x=some v):Cn ρ v (x.map a.eval):=by
 cases x with
 |none=>simp only[sM,bD] at h;subst h;exact .none
 |some x=>
  simp only[sM] at h;split at h
  ·rename_i u hu;simp only[bD] at h;subst h;exact .some _ _ (gO a7 hu)
  ·cases h
def b7:I->Option I
 | .ptr l i c=>some (.ptr l i c)
 | .iface t v=>some (.iface t v)
 | .func (.func f) x y=>some (.func (.func f) x y)
 |_=>none
def Lp(P:Program)(t:TypeId)(v:I):Option I:=
 match P.underlying t with
 |some (.interface _)=>none
 |some _=>some (.iface t v)
 |none=>none
def dC(P:Program)(H:J)(b:Builtin)(ts:List TypeId)(cm:List I):Option I:=
 match b,ts,cm with
 | .len,[t],[x]=>Mg P H t x
 | .max,_,[x,y]=>Hj x y
 | .min,_,[x,y]=>Hk x y
 |_,_,_=>none
def qT(P:Program)(o:Op)(R:ck):Option I:=
 match o with
 | .move x=>ew R x
 | .assign x=>ew R x
 | .pick c a b=>match ew R c with
  |some (.bool t)=>if t then ew R a else ew R b
  |_=>none
 | .build t et=>(qM R et.toList).bind (cM P t)
 | .nilCheck x=>(ew R x).bind b7
 | .binOp op t x y _=>(ew R x).bind λu=>(ew R y).bind λv=>Et P op t x y u v
 | .unOp op _ x=>(ew R x).bind (fh op)
 | .convert s d x=>(ew R x).bind (Cb P s d)
 | .makeInterface t x=>(ew R x).bind (Lp P t)
 | .makeFunc fn f c=>(ow R f.toList).bind λeA=>(ow R c.toList).bind λcs=>some (.func fn eA cs)
 | .slice t x lo be rk=>(ew R x).bind λv=>(sM R lo).bind λl=>(sM R be).bind λh=>(sM R rk).bind λm=>kh P t v l h m
 | .fieldAddr t x f=>(ew R x).bind λv=>aF P t v f
 | .field t x f=>(ew R x).bind λv=>d8 P t v f
 | .indexAddr t x i=>(ew R x).bind λu=>(ew R i).bind λv=>en P t u v
 | .index t x i=>(ew R x).bind λu=>(ew R i).bind λv=>hP P t u v
 | .extract x i=>(ew R x).bind λv=>gf v i
 | .call c=>match c.callee with
  | .builtin b=>(ow R c.args.toList).bind (dC P .empty b c.argTypes.toList)
  |_=>none
 |_=>none
theorem kj{s:Sem Value}{x:Value}{w b5:World}(h:s.run P w= .ok x b5):(do pure (.value (<-s)):Sem Next).run P w= .ok (.value x) b5:=by
 simp[h]
theorem L_{s:Sem Unit}{w b5:World}(h:s.run P w= .ok () b5):(do s;pure .skip:Sem Next).run P w= .ok .skip b5:=by
 simp[h]
theorem Rel.empty(ρ:Env)(w:World)(n:Nat):Rel ρ ⟨.leaf,n⟩ w:=by
 have: ∀l,(⟨.leaf,n⟩:J).get l=none:=λl=>by unfold J.get;split<;>first|exact dd.DQ _|rfl
 refine⟨λl _ _ _ h=> ?_,λl _ h=> ?_,λl l' _ _ h=> ?_⟩
 ·rw[this] at h;cases h
 ·rw[this] at h;cases h
 ·rcases h with⟨_,_,h⟩|⟨_,h⟩<;>(rw[this] at h;cases h)
theorem OO(ce:Rel ρ H w){b:Builtin}{ts:List TypeId}{cm:List I}{v:I}{xs:List Value}(h:dC P H b ts cm=some v)(bw:dG ρ cm xs)(ty:TypeId)(cs:Array Bool):
  ∃x,(builtin b ts.toArray ty cs xs.toArray).run P w= .ok (.value x) w/\cT ρ v x:=by
 unfold dC at h;split at h
 ·cases bw with|cons _ x _ _ U aa=>
  cases aa;obtain⟨r,aI,bc⟩:=abR ce ty h U;exact⟨r,kj aI,bc⟩
 ·cases bw with|cons _ x _ _ U aa=>
  cases aa with|cons _ y _ _ ae al=>
  cases al;obtain⟨r,aI,bc⟩:=abS (P:=P) ts.toArray ty h U ae w;exact⟨r,kj aI,bc⟩
 ·cases bw with|cons _ x _ _ U aa=>
  cases aa with|cons _ y _ _ ae al=>
  cases al;obtain⟨r,aI,bc⟩:=abT (P:=P) ts.toArray ty h U ae w;exact⟨r,kj aI,bc⟩
 ·cases h
theorem map_toArray{α β:Type}(f:α->β)(xs:Array α):xs.map f=(xs.toList.map f).toArray:=by cases xs;simp
theorem Js{o:Oper}{c:Call}{b:Builtin}(bs:o.op= .call c)(aS:c.callee= .builtin b)(w:World):
  (execOp a.eval o).run P w=(builtin b c.argTypes o.type (c.args.map λ | .const _=>true|_=>false) (c.args.map a.eval)).run P w:=by
 unfold execOp;rw[bs];simp only[resolve,aS];rfl
theorem aba{o:Oper}{v:I}(h:qT P o.op R=some v)(a7:hp ρ R a)(w:World): ∃x,(execOp a.eval o).run P w= .ok (.value x) w/\cT ρ v x:=by
 unfold qT at h;split at h
 ·rename_i x bs;exact⟨_,by unfold execOp;rw[bs];rfl,gO a7 h⟩
 ·rename_i x bs;exact⟨_,by unfold execOp;rw[bs];rfl,gO a7 h⟩
 ·rename_i c x y bs;split at h
  ·rename_i t bC;have U:=gO a7 bC;have aa:a.eval c= .bool t:=by
    generalize a.eval c=z at U;cases U;rfl
   cases t
   ·exact⟨_,by unfold execOp;rw[bs];simp only[aa];rfl,gO a7 h⟩
   ·exact⟨_,by unfold execOp;rw[bs];simp only[aa];rfl,gO a7 h⟩
  ·cases h
 ·rename_i t et bs;simp only[eT] at h;obtain⟨cm,U,aa⟩:=h;obtain⟨x,aI,bc⟩:=aaG aa (JE a7 U) w;refine⟨x,?_,bc⟩;unfold execOp;rw[bs];rw[<-map_toArray] at aI;exact kj aI
 ·rename_i x bs;simp only[eT] at h;obtain⟨u,U,aa⟩:=h;have ae:=gO a7 U;refine⟨a.eval x,?_,?_⟩
  ·unfold execOp;rw[bs];simp only
   generalize a.eval x=z at ae;unfold b7 at aa;split at aa
   ·cases ae;rfl
   ·cases ae;rfl
   ·cases ae;rfl
   ·cases aa
  ·unfold b7 at aa;split at aa<;>first|(simp only[bD] at aa;subst aa;exact ae)|cases aa
 ·rename_i op t x y aso bs;simp only[eT] at h;obtain⟨u,U,z,aa,ae⟩:=h;obtain⟨r,aI,bc⟩:=abQ ae (gO a7 U) (gO a7 aa) w;exact⟨r,by unfold execOp;rw[bs];exact kj aI,bc⟩
 ·rename_i op t x bs;simp only[eT] at h;obtain⟨u,U,ae⟩:=h;obtain⟨r,aI,bc⟩:=adw ae (gO a7 U) w;exact⟨r,by unfold execOp;rw[bs];exact kj aI,bc⟩
 ·rename_i s d x bs;simp only[eT] at h;obtain⟨u,U,ae⟩:=h;obtain⟨r,aI,bc⟩:=aa5 ae (gO a7 U) w;exact⟨r,by unfold execOp;rw[bs];exact kj aI,bc⟩
 ·rename_i t x bs;simp only[eT] at h;obtain⟨u,U,ae⟩:=h;have al:=gO a7 U;unfold Lp at ae;split at ae
  ·cases ae
  ·rename_i d dK hu;simp only[bD] at ae;subst ae;refine⟨.iface t (a.eval x),?_,.iface _ _ _ al⟩;unfold execOp;rw[bs];refine kj ?_;unfold Instr.makeInterface;simp only[Sem.run_bind,run_underlying hu,Result.andThen_ok];cases d<;>first|rfl|exact absurd rfl (dK _)
  ·cases ae
 ·rename_i fn f c bs;simp only[eT,bD] at h;obtain⟨eA,U,cs,aa,rfl⟩:=h;refine⟨_,?_,.func fn eA cs _ _ (Bf a7 U) (Bf a7 aa)⟩;unfold execOp;rw[bs];rw[<-map_toArray,<-map_toArray];rfl
 ·rename_i t x lo be rk bs;simp only[eT] at h;obtain⟨u,U,l,aa,k,ae,m,al,aB⟩:=h;obtain⟨r,aI,bc⟩:=aaJ aB (gO a7 U) (JP a7 aa) (JP a7 ae) (JP a7 al) w;exact⟨r,by unfold execOp;rw[bs];exact kj aI,bc⟩
 ·rename_i t x f bs;simp only[eT] at h;obtain⟨u,U,ae⟩:=h;obtain⟨r,aI,bc⟩:=aaf ae (gO a7 U) w;exact⟨r,by unfold execOp;rw[bs];exact kj aI,bc⟩
 ·rename_i t x f bs;simp only[eT] at h;obtain⟨u,U,ae⟩:=h;obtain⟨r,aI,bc⟩:=aaH ae (gO a7 U) w;exact⟨r,by unfold execOp;rw[bs];exact kj aI,bc⟩
 ·rename_i t x i bs;simp only[eT] at h;obtain⟨u,U,z,aa,ae⟩:=h;obtain⟨r,aI,bc⟩:=aag ae (gO a7 U) (gO a7 aa) w;exact⟨r,by unfold execOp;rw[bs];exact kj aI,bc⟩
 ·rename_i t x i bs;simp only[eT] at h;obtain⟨u,U,z,aa,ae⟩:=h;obtain⟨r,aI,bc⟩:=aaI ae (gO a7 U) (gO a7 aa) w;exact⟨r,by unfold execOp;rw[bs];exact kj aI,bc⟩
 ·rename_i x i bs;simp only[eT] at h;obtain⟨u,U,ae⟩:=h;obtain⟨r,aI,bc⟩:=aal ae (gO a7 U) w;exact⟨r,by unfold execOp;rw[bs];exact kj aI,bc⟩
 ·rename_i c bs;split at h
  ·rename_i b aS;simp only[eT] at h;obtain⟨cm,U,aa⟩:=h;obtain⟨x,aI,bc⟩:=OO (Rel.empty ρ w 0) aa (Bf a7 U) o.type (c.args.map λ | .const _=>true|_=>false);refine⟨x,?_,bc⟩;rw[Js bs aS,map_toArray a.eval];simpa using aI
  ·cases h
 ·cases h
def mI(P:Program)(o:Op)(R:ck)(H:J):Option I:=
 match o with
 | .load t x=>(ew R x).bind (am P H t)
 | .lookup t x k ok=>(ew R x).bind λu=>(ew R k).bind λv=>n1 P H t u v ok
 | .convert s d x=>(ew R x).bind (Dy P H s d)
 | .call c=>match c.callee with
  | .builtin b=>(ow R c.args.toList).bind (dC P H b c.argTypes.toList)
  |_=>none
 |_=>none
theorem abb(ce:Rel ρ H w){o:Oper}{v:I}(h:mI P o.op R H=some v)(a7:hp ρ R a): ∃x,(execOp a.eval o).run P w= .ok (.value x) w/\cT ρ v x:=by
 unfold mI at h;split at h
 ·rename_i t x bs;simp only[eT] at h;obtain⟨u,U,ae⟩:=h;obtain⟨r,aI,bc⟩:=Pn ce ae (gO a7 U);exact⟨r,by unfold execOp;rw[bs];exact kj aI,bc⟩
 ·rename_i t x k ok bs;simp only[eT] at h;obtain⟨u,U,z,aa,ae⟩:=h;obtain⟨r,aI,bc⟩:=aau ce ae (gO a7 U) (gO a7 aa);exact⟨r,by unfold execOp;rw[bs];exact kj aI,bc⟩
 ·rename_i s d x bs;simp only[eT] at h;obtain⟨u,U,ae⟩:=h;obtain⟨r,aI,bc⟩:=aae ce ae (gO a7 U);exact⟨r,by unfold execOp;rw[bs];exact kj aI,bc⟩
 ·rename_i c bs;split at h
  ·rename_i b aS;simp only[eT] at h;obtain⟨cm,U,aa⟩:=h;obtain⟨x,aI,bc⟩:=OO ce aa (Bf a7 U) o.type (c.args.map λ | .const _=>true|_=>false);refine⟨x,?_,bc⟩;rw[Js bs aS,map_toArray a.eval];simpa using aI
  ·cases h
 ·cases h
def zA(P:Program)(o:Op)(R:ck)(H:J):Option (I×J):=
 match o with
 | .alloc t=>G2 P H t
 | .box _ x=>(ew R x).bind (Cq H)
 | .buildSlice t n et=>(qM R et.toList).bind (Dx P H t n)
 | .makeMap _ none=>some (KE H)
 | .makeSlice t l c=>(ew R l).bind λu=>(ew R c).bind λv=>Gj P H t u v
 |_=>none
theorem aa8(ce:Rel ρ H w)(ak:ρ H.next=none){o:Oper}{v:I}{H':J}(h:zA P o.op R H=some (v,H'))(a7:hp ρ R a):
  ∃x b5 cX,(execOp a.eval o).run P w= .ok (.value x) b5/\cT cX v x/\Step ρ H w cX H' b5:=by
 unfold zA at h;split at h
 ·rename_i t bs;obtain⟨r,b5,cX,aI,bc,dm⟩:=aaF ce ak h;exact⟨r,b5,cX,by unfold execOp;rw[bs];exact kj aI,bc,dm⟩
 ·rename_i t x bs;simp only[eT] at h;obtain⟨u,U,ae⟩:=h;obtain⟨r,b5,cX,aI,bc,dm⟩:=PZ (P:=P) ce ak ae (gO a7 U) t;exact⟨r,b5,cX,by unfold execOp;rw[bs];exact kj aI,bc,dm⟩
 ·rename_i t n et bs;simp only[eT] at h;obtain⟨u,U,ae⟩:=h;obtain⟨r,b5,cX,aI,bc,dm⟩:=aad ce ak ae (JE a7 U);refine⟨r,b5,cX,?_,bc,dm⟩;unfold execOp;rw[bs];rw[<-map_toArray] at aI;exact kj aI
 ·rename_i t bs;simp only[bD] at h;obtain⟨r,b5,cX,aI,bc,dm⟩:=aam (P:=P) ce ak t;rw[h] at bc dm;exact⟨r,b5,cX,by unfold execOp;rw[bs];exact kj aI,bc,dm⟩
 ·rename_i t l c bs;simp only[eT] at h;obtain⟨u,U,z,aa,ae⟩:=h;obtain⟨r,b5,cX,aI,bc,dm⟩:=aah ce ak ae (gO a7 U) (gO a7 aa);exact⟨r,b5,cX,by unfold execOp;rw[bs];exact kj aI,bc,dm⟩
 ·cases h
def dZ.uu:dZ->Bool
 | .row false _ _=>true
 | .map _=>true
 |_=>false
theorem dZ.uu.ro{b:dZ}(h:b.uu=true):b.HO=false:=by
 cases b with
 |row ro e s=>cases ro<;>first|rfl|cases h
 |map es=>rfl
 |dead=>rfl
def zI(r:Option (I×J))(l:Nat):Option (I×dZ):=
 match r with
 |some (v,H')=>if H'.next=l+1 then(match H'.get l with
  |some b=>if b.uu then some (v,b) else none
  |none=>none) else none
 |none=>none
def rX(P:Program)(o:Op)(R:ck)(l:Nat):Option (I×dZ):=zI (zA P o R ⟨.leaf,l⟩) l
def tO(P:Program)(o:Op)(R:ck)(H:J):Option (I×J):=
 match o with
 | .store t x y=>(ew R x).bind λu=>(ew R y).bind λv=>(aQ P H t u v).map λH'=>(.tuple [],H')
 | .mapUpdate t m k x=>(ew R m).bind λu=>(ew R k).bind λv=>(ew R x).bind λz=>(jg P H t u v z).map λH'=>(.tuple [],H')
 | .insert t m k x=>(ew R m).bind λu=>(ew R k).bind λv=>(ew R x).bind λz=>(jg P H t u v z).map λH'=>(.tuple [],H')
 | .call c=>match c.callee,c.args.toList with
  | .builtin .append,[s,x]=>(ew R s).bind λu=>(ew R x).bind λv=>fM P H c.argTypes.toList u v
  |_,_=>none
 |_=>none
def W0(x:Value):Next->Prop
 | .value y=>y=x
 | .skip=>x=undef
 |_=>False
theorem aaM(ce:Rel ρ H w){o:Oper}{v:I}{H':J}(h:tO P o.op R H=some (v,H'))(ak:H.next<H'.next->ρ H.next=none)(a7:hp ρ R a):
  ∃n x b5 cX,(execOp a.eval o).run P w= .ok n b5/\W0 x n/\cT cX v x/\Step ρ H w cX H' b5:=by
 unfold tO at h;split at h
 ·rename_i t x y bs;simp only[eT,Option.map_eq_some_iff,dz] at h;obtain⟨u,U,z,aa,H1,ae,rfl,rfl⟩:=h;obtain⟨b5,aI,bc⟩:=aaK ce ae (gO a7 U) (gO a7 aa);exact⟨.skip,undef,b5,ρ,by unfold execOp;rw[bs];exact L_ aI,rfl,.tuple [] [] .nil,bc⟩
 ·rename_i t m k x bs;simp only[eT,Option.map_eq_some_iff,dz] at h;obtain⟨u,U,z,aa,y,al,H1,ae,rfl,rfl⟩:=h;obtain⟨b5,aI,bc⟩:=OD ce ae (gO a7 U) (gO a7 aa) (gO a7 al);exact⟨.skip,undef,b5,ρ,by unfold execOp;rw[bs];exact L_ aI,rfl,.tuple [] [] .nil,bc⟩
 ·rename_i t m k x bs;simp only[eT,Option.map_eq_some_iff,dz] at h;obtain⟨u,U,z,aa,y,al,H1,ae,rfl,rfl⟩:=h;obtain⟨b5,aI,bc⟩:=OD ce ae (gO a7 U) (gO a7 aa) (gO a7 al);exact⟨.skip,undef,b5,ρ,by unfold execOp;rw[bs];exact L_ aI,rfl,.tuple [] [] .nil,bc⟩
 ·rename_i c bs;split at h
  ·rename_i s x aS o0;simp only[eT] at h;obtain⟨u,U,z,aa,ae⟩:=h;obtain⟨r,b5,cX,aI,bc,dm⟩:=aas ce o.type ae ak (gO a7 U) (gO a7 aa);refine⟨.value r,r,b5,cX,?_,rfl,bc,dm⟩;rw[Js bs aS,map_toArray a.eval,o0];refine kj (s:=Builtin.append_ c.argTypes o.type _) ?_;simpa using aI
  ·cases h
 ·cases h
end
end
end Go.f7
