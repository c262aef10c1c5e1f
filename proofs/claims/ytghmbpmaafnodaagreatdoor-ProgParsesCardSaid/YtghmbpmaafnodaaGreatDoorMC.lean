/-
  Texts of one proof, laid together: Fv12 Fv13 Fv14 Fv15 Fv16.
-/
import Derived.Test.YtghmbpmaafnodaaGreatDoorMB
set_option linter.unusedVariables false
set_option linter.unusedSimpArgs false
namespace Go.gd
section
section
variable {P:Program}{ρ:Env}{H:J}{w:World}{R:ci}{a:Act}
def qK(ρ:Env)(w:World)(loc:Loc):dY->Prop
 | .row ro esz els=>mN ρ w loc ro esz els
 | .map es=>Ls ρ w loc es
 | .dead=>True
theorem qK.frame{cY:Env}{b4:World}{loc:Loc}{b:dY}(h:qK ρ w loc b)(hle:ρ.le cY)(ax:b4.heap[loc.block]? =w.heap[loc.block]?):qK cY b4 loc b:=by
 cases b with
 |row ro esz els=>
  obtain⟨aV,c,t,ie,aJ,bB,bK⟩:=h;refine⟨aV,c,t,ie,by rw[ax];exact aJ,bB,λi e he=> ?_⟩;obtain⟨cD,cu⟩:=bK i e he;refine⟨cD,λj v bA=> ?_⟩;obtain⟨gm,x,e0,gC⟩:=cu j v bA;exact⟨gm,x,e0,gC.mono hle⟩
 |map es=>
  obtain⟨ents,clock,aV,aJ,bB⟩:=h;exact⟨ents,clock,by rw[ax];exact aV,aJ.mono hle,bB.mono hle⟩
 |dead=>trivial
theorem qK.lt{loc:Loc}{b:dY}(h:qK ρ w loc b)(bd:b.uu=true):loc.block<w.heap.size:=by
 cases b with
 |row ro esz els=>obtain⟨_,c,t,ie,aJ,_⟩:=h;exact ss aJ
 |map es=>obtain⟨ents,clock,aV,_⟩:=h;exact ss aV
 |dead=>cases bd
theorem Rel.grow{cY:Env}{b4:World}(h:Rel ρ H w)(hle:ρ.le cY)(ax: ∀b,b<w.heap.size->b4.heap[b]? =w.heap[b]?):Rel cY H b4:=by
 refine⟨λl ro esz els e=> ?_,λl es e=> ?_,λl l' loc dz U aa dM aI bc=> ?_⟩
 ·obtain⟨loc,aV,aJ⟩:=h.row l ro esz els e;refine⟨loc,hle _ _ aV,?_⟩;have:=aJ;obtain⟨_,c,t,ie,bB,_⟩:=this;exact qK.frame (b:= .row ro esz els) aJ hle (ax _ (ss bB))
 ·obtain⟨loc,aV,aJ⟩:=h.map l es e;refine⟨loc,hle _ _ aV,?_⟩;have:=aJ;obtain⟨_,_,bB,_⟩:=this;exact qK.frame (b:= .map es) aJ hle (ax _ (ss bB))
 ·have zY: ∀k loc,H.live k->cY k=some loc->ρ k=some loc:=λk loc ah e=>by
   rcases ah with⟨ro,esz,els,ah⟩|⟨es,ah⟩
   ·obtain⟨dz,aV,_⟩:=h.row _ _ _ _ ah;rw[hle _ _ aV] at e;rw[aV];exact e
   ·obtain⟨dz,aV,_⟩:=h.map _ _ ah;rw[hle _ _ aV] at e;rw[aV];exact e
  exact h.apart l l' loc dz U aa dM (zY _ _ U.live aI) (zY _ _ aa bc)
theorem Rel.LQ(h:Rel ρ H w){l:Nat}(az:H.live l): ∃loc,ρ l=some loc/\loc.block<w.heap.size:=by
 rcases az with⟨ro,esz,els,ah⟩|⟨es,ah⟩
 ·obtain⟨loc,aV,_,c,t,ie,bB,_⟩:=h.row _ _ _ _ ah;exact⟨loc,aV,ss bB⟩
 ·obtain⟨loc,aV,_,_,bB,_⟩:=h.map _ _ ah;exact⟨loc,aV,ss bB⟩
theorem abg{o:Oper}{l:Nat}{v:I}{b:dY}(h:rW P o.op R l=some (v,b))(a8:hF ρ R a)(al:ρ l=none)(w:World):
  ∃x b4 cY loc,(execOp a.eval o).run P w= .ok (.value x) b4/\cW cY v x/\ρ.le cY/\(∀k,k≠l->cY k=ρ k)/\cY l=some loc/\w.heap.size<=loc.block/\b.uu=true/\qK cY b4 loc b/\
   b4.os=w.os/\b4.tape=w.tape/\b4.output=w.output/\w.heap.size<=b4.heap.size/\ ∀k,k<w.heap.size->b4.heap[k]? =w.heap[k]? :=by
 unfold rW zN at h;split at h
 ·rename_i dr H' FU;split at h
  ·rename_i aU;split at h
   ·rename_i fq ax;split at h
    ·rename_i j8;simp only[bF,dw] at h;obtain⟨rfl,rfl⟩:=h;obtain⟨x,b4,cY,aI,bc,dq⟩:=aau (Rel.empty ρ w l) al FU a8;have jf: ∀k,¬pN ρ ⟨.leaf,l⟩ k:=by
      rintro k ⟨l',loc,U,_,_⟩;have ut:(⟨.leaf,l⟩:J).get l'=none:=by unfold J.get;split<;>first|exact da.DL _|rfl
      rcases U with⟨_,_,h⟩|⟨_,h⟩<;>(rw[ut] at h;cases h)
     have zI:H'.rw l:=by
      cases fq with
      |row ro esz els=>cases ro with
       |true=>cases j8
       |false=>exact .inl ⟨_,_,ax⟩
      |map es=>exact .inr ⟨_,ax⟩
      |dead=>cases j8
     have HA: ∃loc,cY l=some loc/\qK cY b4 loc fq:=by
      cases fq with
      |row ro esz els=>exact dq.rel.row _ _ _ _ ax
      |map es=>exact dq.rel.map _ _ ax
      |dead=>cases j8
     obtain⟨loc,aV,aJ⟩:=HA;refine⟨x,b4,cY,loc,aI,bc,dq.le,λk ah=>dq.bo k ?_,aV,?_,j8,aJ,dq.os,dq.tape,dq.output,dq.size,λk ah=>dq.frame k ah (jf k)⟩
     ·rw[aU];show k<l\/_;omega
     ·exact(dq.own loc.block ⟨l,loc,zI,aV,rfl⟩).resolve_left (jf _)
    ·cases h
   ·cases h
  ·cases h
 ·cases h
structure jG(ρ0:Env)(H0:J)(w0:World)(N:Nat)(o1:Nat->Option dY)(ρ:Env)(H:J)(w:World):Prop where
 EE:Rel ρ0 H0 w0
 le:ρ0.le ρ
 next:H0.next<=H.next
 bo: ∀l,l<H0.next\/N<=l->ρ l=ρ0 l
 rel:Rel ρ H w
 os:w.os=w0.os
 tape:w.tape=w0.tape
 output:w.output=w0.output
 size:w0.heap.size<=w.heap.size
 frame: ∀b,b<w0.heap.size-> ¬pN ρ0 H0 b->w.heap[b]? =w0.heap[b]?
 own: ∀b,pN ρ H b->pN ρ0 H0 b\/w0.heap.size<=b
 ro: ∀l esz els,H.get l=some (.row true esz els)->H0.get l=some (.row true esz els)
 fresh: ∀l,H.next<=l->l<N->o1 l=none->ρ l=none
 qO: ∀l b,o1 l=some b->H.next<=l/\l<N/\b.uu=true/\ ∃loc,ρ l=some loc/\qK ρ w loc b/\w0.heap.size<=loc.block/\ ¬pN ρ H loc.block
 sep: ∀l l' b fq loc dz,o1 l=some b->o1 l'=some fq->l≠l'->ρ l=some loc->ρ l'=some dz->loc.block≠dz.block
variable {ρ0:Env}{H0:J}{w0:World}{N:Nat}{o1:Nat->Option dY}
theorem jG.start(h:Rel ρ0 H0 w0)(al:XJ ρ0 H0.next N):jG ρ0 H0 w0 N (λ_=>none) ρ0 H0 w0:=
 ⟨h,ρ0.le_refl,bN _,λ_ _=>rfl,h,rfl,rfl,rfl,bN _,λ_ _ _=>rfl,λ_ h=> .inl h,λ_ _ _ h=>h,λl a b _=>al l a b,λ_ _ h=>by simp at h,λ_ _ _ _ _ _ h=>by simp at h⟩
theorem jG.done(m:jG ρ0 H0 w0 N o1 ρ H w)(dU:H.next=N):Step ρ0 H0 w0 ρ H w:=
 ⟨m.le,m.next,λl az=>m.bo l (by rw[<-dU];exact az),m.rel,m.os,m.tape,m.output,m.size,m.frame,m.own,m.ro⟩
theorem jG.step{cY:Env}{H':J}{b4:World}(m:jG ρ0 H0 w0 N o1 ρ H w)(s:Step ρ H w cY H' b4)(dU:H'.next<=N)(bw: ∀l b,o1 l=some b->H'.next<=l):jG ρ0 H0 w0 N o1 cY H' b4 where
 EE:=m.EE
 le:=Env.le_trans m.le s.le
 next:=Nat.le_trans m.next s.next
 bo:=λl az=>(s.bo l (az.imp (λh=>Nat.lt_of_lt_of_le h m.next) (λh=>Nat.le_trans dU h))).trans (m.bo l az)
 rel:=s.rel
 os:=s.os.trans m.os
 tape:=s.tape.trans m.tape
 output:=s.output.trans m.output
 size:=Nat.le_trans m.size s.size
 frame:=λb ax aU=>by
  rw[s.frame b (Nat.lt_of_lt_of_le ax m.size) (λbt=>(m.own b bt).elim aU (λhle=>Z)),m.frame b ax aU]
 own:=λb ax=>(s.own b ax).elim (λbt=>m.own b bt) (λhle=> .inr (Nat.le_trans m.size hle))
 ro:=λl esz els e=>m.ro l esz els (s.ro l esz els e)
 fresh:=λl a b c=>by rw[s.bo l (.inr a)];exact m.fresh l (Nat.le_trans s.next a) b c
 qO:=λl b h=>by
  obtain⟨aV,aJ,bB,loc,bK,c8,fc,iX⟩:=m.qO l b h;have et:=c8.lt bB;refine⟨bw l b h,aJ,bB,loc,s.le _ _ bK,c8.frame s.le (s.frame _ et iX),fc,λbt=> ?_⟩;rcases s.own _ bt with h|h
  ·exact iX h
  ·omega
 sep:=λl l' b fq loc dz h bZ dM e cN=>by
  obtain⟨_,_,_,nC,bK,_⟩:=m.qO l b h;obtain⟨_,_,_,oZ,eE,_⟩:=m.qO l' fq bZ;have U:=s.le _ _ bK;rw[e] at U;cases U;have aa:=s.le _ _ eE;rw[cN] at aa;cases aa;exact m.sep l l' b fq _ _ h bZ dM bK eE
theorem jG.early{cY:Env}{b4:World}{l:Nat}{b:dY}{loc:Loc}(m:jG ρ0 H0 w0 N o1 ρ H w)(az:H.next<=l)(dU:l<N)(bw:o1 l=none)
  (hle:ρ.le cY) (ah: ∀k,k≠l->cY k=ρ k) (zY:cY l=some loc) (wg:w.heap.size<=loc.block) (j8:b.uu=true) (ax:qK cY b4 loc b) (sd:b4.os=w.os) (akm:b4.tape=w.tape) (amW:b4.output=w.output)
  (Hf:w.heap.size<=b4.heap.size) (Lh: ∀k,k<w.heap.size->b4.heap[k]? =w.heap[k]?):jG ρ0 H0 w0 N (λk=>if k=l then some b else o1 k) cY H b4:=by
 have hold: ∀k dz,H.live k->cY k=some dz->ρ k=some dz:=λk dz ah e=>by
  obtain⟨nC,aV,_⟩:=m.rel.LQ ah;have:=hle _ _ aV;rw[e] at this;cases this;exact aV
 have BR: ∀k,pN cY H k->pN ρ H k:=by
  rintro k ⟨l',dz,U,aa,ae⟩;exact⟨l',dz,U,hold _ _ U.live aa,ae⟩
 have aht: ∀k,pN ρ H k->k<w.heap.size:=by
  rintro k ⟨l',dz,U,aa,ae⟩;obtain⟨nC,aV,aJ⟩:=m.rel.LQ U.live;rw[aa] at aV;cases aV;rw[<-ae];exact aJ
 refine⟨m.EE,Env.le_trans m.le hle,m.next,λk h=> ?_,m.rel.grow hle Lh,sd.trans m.os,akm.trans m.tape,amW.trans m.output,Nat.le_trans m.size Hf,λk U aa=> ?_,
  λk h=>m.own k (BR k h),m.ro,λk U aa ae=> ?_,λk fq h=> ?_,λk fF df cU nC oZ h bZ dM e cN=> ?_⟩
 ·rw[ah k (by have:=m.next;omega)];exact m.bo k h
 ·rw[Lh k (Nat.lt_of_lt_of_le U m.size)];exact m.frame k U aa
 ·by_cases iJ:k=l
  ·subst iJ;simp at ae
  ·simp only[iJ,if_false] at ae;rw[ah k iJ];exact m.fresh k U aa ae
 ·by_cases iJ:k=l
  ·subst iJ;simp only[if_true,bF] at h;subst h;exact⟨az,dU,j8,loc,zY,ax,Nat.le_trans m.size wg,λbt=>by have:=aht _ (BR _ bt);omega⟩
  ·simp only[iJ,if_false] at h;obtain⟨aV,aJ,bB,dz,bK,c8,fc,iX⟩:=m.qO k fq h;exact⟨aV,aJ,bB,dz,hle _ _ bK,c8.frame hle (Lh _ (c8.lt bB)),fc,λbt=>iX (BR _ bt)⟩
 ·by_cases iJ:k=l
  ·by_cases HC:fF=l
   ·omega
   ·subst iJ;simp only[HC,if_false] at bZ;obtain⟨_,_,bB,dz,bK,c8,_,_⟩:=m.qO fF cU bZ;have:=hle _ _ bK;rw[cN] at this;cases this;rw[zY] at e;cases e;have:=c8.lt bB;omega
  ·by_cases HC:fF=l
   ·subst HC;simp only[iJ,if_false] at h;obtain⟨_,_,bB,dz,bK,c8,_,_⟩:=m.qO k df h;have:=hle _ _ bK;rw[e] at this;cases this;rw[zY] at cN;cases cN;have:=c8.lt bB;omega
   ·simp only[iJ,if_false] at h;simp only[HC,if_false] at bZ;obtain⟨_,_,_,aqd,bK,_⟩:=m.qO k df h;obtain⟨_,_,_,aqe,eE,_⟩:=m.qO fF cU bZ;have U:=hle _ _ bK;rw[e] at U;cases U;have aa:=hle _ _ eE;rw[cN] at aa;cases aa;exact m.sep k fF df cU _ _ h bZ dM bK eE
theorem jG.XD{b:dY}(m:jG ρ0 H0 w0 N o1 ρ H w)(bw:o1 H.next=some b):jG ρ0 H0 w0 N (λk=>if k=H.next then none else o1 k) ρ (H.push b) w:=by
 obtain⟨_,dU,j8,loc,bK,c8,fc,iX⟩:=m.qO _ _ bw;have BE: ∀k,(H.push b).rw k->k≠H.next->H.rw k:=λk h ah=>by simpa [J.rw,J.gD ah] using h
 have DA: ∀k,(H.push b).live k->k≠H.next->H.live k:=λk h ah=>by simpa [J.live,J.gD ah] using h
 have jf: ∀k dz,H.live k->ρ k=some dz->dz.block≠loc.block:=by
  intro k dz ah e heq;by_cases a8:H.rw k
  ·exact iX ⟨k,dz,a8,e,heq⟩
  ·rcases ah with⟨ro,esz,els,ah⟩|⟨es,ah⟩
   ·cases ro with
    |false=>exact a8 (.inl ⟨_,_,ah⟩)
    |true=>
     have aY:=m.ro _ _ _ ah;obtain⟨aqc,cD,cu⟩:=m.EE.LQ (.inl ⟨_,_,_,aY⟩);have:=m.le _ _ cD;rw[e] at this;cases this;omega
   ·exact a8 (.inr ⟨_,ah⟩)
 have BR: ∀k,pN ρ (H.push b) k->pN ρ H k\/k=loc.block:=by
  rintro k ⟨l',dz,U,aa,ae⟩;by_cases az:l'=H.next
  ·subst az;rw[bK] at aa;cases aa;exact .inr ae.symm
  ·exact .inl ⟨l',dz,BE _ U az,aa,ae⟩
 refine⟨m.EE,m.le,by have:=m.next;simp;omega,m.bo,⟨λl ro esz els h=> ?_,λl es h=> ?_,λl l' nC oZ h bZ dM e cN=> ?_⟩,m.os,m.tape,m.output,m.size,m.frame,
  λk h=> ?_,λl esz els h=>m.ro l esz els (J.Tu (dY.uu.ro j8) l esz els h),λl U aa ae=> ?_,λl fq h=> ?_,λl l' df cU nC oZ h bZ dM e cN=> ?_⟩
 ·by_cases az:l=H.next
  ·subst az;rw[J.ca] at h;simp only[bF] at h;subst h;exact⟨loc,bK,c8⟩
  ·rw[J.gD az] at h;exact m.rel.row _ _ _ _ h
 ·by_cases az:l=H.next
  ·subst az;rw[J.ca] at h;simp only[bF] at h;subst h;exact⟨loc,bK,c8⟩
  ·rw[J.gD az] at h;exact m.rel.map _ _ h
 ·by_cases az:l=H.next
  ·by_cases dD:l'=H.next
   ·omega
   ·subst az;rw[bK] at e;cases e;exact λheq=>jf l' oZ (DA _ bZ dD) cN heq.symm
  ·by_cases dD:l'=H.next
   ·subst dD;rw[bK] at cN;cases cN;exact jf l nC (BE _ h az).live e
   ·exact m.rel.apart l l' nC oZ (BE _ h az) (DA _ bZ dD) dM e cN
 ·rcases BR k h with h|rfl
  ·exact m.own k h
  ·exact .inr fc
 ·simp only[J.b2] at U;have az:l≠H.next:=Z
  simp only[az,if_false] at ae;exact m.fresh l Z aa ae
 ·by_cases az:l=H.next
  ·simp[az] at h
  ·simp only[az,if_false] at h;obtain⟨cD,cu,eH,dz,eE,eR,gI,nj⟩:=m.qO l fq h;refine⟨by simp;omega,cu,eH,dz,eE,eR,gI,λbt=> ?_⟩;rcases BR _ bt with bZ|bZ
   ·exact nj bZ
   ·exact m.sep l H.next fq b dz loc h bw az eE bK bZ
 ·by_cases az:l=H.next
  ·simp[az] at h
  ·by_cases dD:l'=H.next
   ·simp[dD] at bZ
   ·simp only[az,if_false] at h;simp only[dD,if_false] at bZ;exact m.sep l l' df cU nC oZ h bZ dM e cN
end
end
section
def u3(R:ci)(c:Call):Option (Nat×List I):=
 match c.callee with
 | .value f=>match ey R f with
  |some (.func (.func g) first captured)=>match om R c.args.toList with
   |some cl=>some (g,first++cl++captured)
   |none=>none
  |_=>none
 |_=>none
inductive K where
 |skip
 |pure (v:I)
 |read (v:I)
 |new (v:I) (b:dY)
 |hx (v:I) (H:J)
def K.val:K->I
 | .skip=> .tuple []
 | .pure v=>v
 | .read v=>v
 | .new v _=>v
 | .hx v _=>v
def K.heap(H:J):K->J
 | .new _ b=>H.push b
 | .hx _ H'=>H'
 |_=>H
def K.jm:K->Bool
 | .new _ _=>true
 | .hx _ _=>true
 |_=>false
abbrev av:=Nat->List I->J->Option (I×J)
def LO:Option I->Option K
 |some v=>some (.pure v)
 |none=>none
def Ch:Option I->Option K
 |some v=>some (.read v)
 |none=>none
def W7:Option (I×dY)->Option K
 |some (v,b)=>some (.new v b)
 |none=>none
def Cw(H:J):Option (I×J)->Option K
 |some (v,H')=>if H.next<=H'.next then some (.hx v H') else none
 |none=>none
inductive anr where
 |pure|read|both|new|write|call
def cls:Op->anr
 | .load .. => .read
 | .lookup .. => .read
 | .alloc _=> .new
 | .box .. => .new
 | .buildSlice .. => .new
 | .makeMap .. => .new
 | .makeSlice .. => .new
 | .store .. => .write
 | .mapUpdate .. => .write
 | .insert .. => .write
 | .convert .. => .both
 | .call c=>match c.callee with
  | .builtin .append=> .write
  | .builtin _=> .both
  |_=> .call
 |_=> .pure
def step1(P:Program)(call:av)(o:Op)(R:ci)(H:J):Option K:=
 match cls o with
 | .pure=>LO (qL P o R)
 | .read=>Ch (mO P o R H)
 | .both=>match qL P o R with
  |some v=>some (.pure v)
  |none=>Ch (mO P o R H)
 | .new=>W7 (rW P o R H.next)
 | .write=>Cw H (tM P o R H)
 | .call=>match o with
  | .call c=>match u3 R c with
   |some (g,cl)=>Cw H (call g cl H)
   |none=>none
  |_=>none
def zg(o:Op):Bool:=match cls o with
 | .new=>true
 | .write=>true
 | .call=>true
 |_=>false
theorem acH{P:Program}{call:av}{o:Op}{R:ci}{H:J}{k:K}(h:step1 P call o R H=some k)(ah:k.jm=true):zg o=true:=by
 unfold step1 at h;unfold zg;split at h
 ·unfold LO at h;split at h
  ·simp only[bF] at h;subst h;cases ah
  ·cases h
 ·unfold Ch at h;split at h
  ·simp only[bF] at h;subst h;cases ah
  ·cases h
 ·split at h
  ·simp only[bF] at h;subst h;cases ah
  ·unfold Ch at h;split at h
   ·simp only[bF] at h;subst h;cases ah
   ·cases h
 ·rename_i aS;rw[aS]
 ·rename_i aS;rw[aS]
 ·rename_i aS;rw[aS]
def v6(P:Program)(call:av)(o:Op)(R:ci)(H:J):K->Prop
 | .skip=>False
 | .pure v=>qL P o R=some v
 | .read v=>mO P o R H=some v
 | .new v b=>rW P o R H.next=some (v,b)
 | .hx v H'=>H.next<=H'.next/\(tM P o R H=some (v,H')\/ ∃c g cl,o= .call c/\u3 R c=some (g,cl)/\call g cl H=some (v,H'))
theorem afz{P:Program}{call:av}{o:Op}{R:ci}{H:J}{k:K}(h:step1 P call o R H=some k):v6 P call o R H k:=by
 unfold step1 at h;split at h
 ·unfold LO at h;split at h
  ·rename_i v bA;simp only[bF] at h;subst h;exact bA
  ·cases h
 ·unfold Ch at h;split at h
  ·rename_i v bA;simp only[bF] at h;subst h;exact bA
  ·cases h
 ·split at h
  ·rename_i v bA;simp only[bF] at h;subst h;exact bA
  ·unfold Ch at h;split at h
   ·rename_i v bA;simp only[bF] at h;subst h;exact bA
   ·cases h
 ·unfold W7 at h;split at h
  ·rename_i v b bA;simp only[bF] at h;subst h;exact bA
  ·cases h
 ·unfold Cw at h;split at h
  ·rename_i v H' bA;split at h
   ·rename_i aU;simp only[bF] at h;subst h;exact⟨aU,.inl bA⟩
   ·cases h
  ·cases h
 ·split at h
  ·rename_i c _;split at h
   ·rename_i g cl aS;unfold Cw at h;split at h
    ·rename_i v H' bA;split at h
     ·rename_i aU;simp only[bF] at h;subst h;exact⟨aU,.inr ⟨c,g,cl,rfl,aS,bA⟩⟩
     ·cases h
    ·cases h
   ·cases h
  ·cases h
section congr
variable {P:Program}{R ch:ci}
theorem Bi: ∀{xs:List Operand},(∀x∈xs,ey R x=ey ch x)->om R xs=om ch xs
 |[],_=>rfl
 |x::xs,h=>by
  simp only[om,h x (by simp),Bi (xs:=xs) λy cV=>h y (by simp[cV])]
theorem Jw: ∀{xs:List (Nat×Operand)},(∀x∈xs.map (·.2),ey R x=ey ch x)->qE R xs=qE ch xs
 |[],_=>rfl
 |(i,x)::xs,h=>by
  simp only[qE,h x (by simp),Jw (xs:=xs) λy cV=>h y (by simp at cV ⊢;exact .inr cV)]
theorem JH{x:Option Operand}(h: ∀y,x=some y->ey R y=ey ch y):sN R x=sN ch x:=by
 cases x with
 |none=>rfl
 |some x=>simp only[sN,h x rfl]
theorem aaw{o:Op}(h: ∀x∈o.operands,ey R x=ey ch x):qL P o R=qL P o ch:=by
 cases o<;>simp only[qL,Op.operands] at h ⊢ <;>first
  |rfl
  |(simp at h;simp[h];done)
  |skip
 ·rename_i t ew;rw[Jw λx ag=>h x (by simpa using ag)]
 ·rename_i fn f c;rw[Bi λx ag=>h x (by simp at ag ⊢;exact .inl ag),Bi (xs:=c.toList) λx ag=>h x (by simp at ag ⊢;exact .inr ag)]
 ·rename_i t x lo be re;rw[h x (by simp),JH (x:=lo) λy cV=>h y (by simp[cV]),JH (x:=be) λy cV=>h y (by simp[cV]),JH (x:=re) λy cV=>h y (by simp[cV])]
 ·rename_i c;cases aS:c.callee with
  |builtin b=>
   simp only[Call.operands,aS] at h ⊢;rw[Bi λx ag=>h x (by simpa using ag)]
  |value f=>rfl
  |invoke r m=>rfl
theorem O0{o:Op}{H:J}(h: ∀x∈o.operands,ey R x=ey ch x):mO P o R H=mO P o ch H:=by
 cases o<;>simp only[mO,Op.operands] at h ⊢ <;>first
  |rfl
  |(simp at h;simp[h];done)
  |skip
 ·rename_i c;cases aS:c.callee with
  |builtin b=>
   simp only[Call.operands,aS] at h ⊢;rw[Bi λx ag=>h x (by simpa using ag)]
  |value f=>rfl
  |invoke r m=>rfl
theorem aat{o:Op}{H:J}(h: ∀x∈o.operands,ey R x=ey ch x):zF P o R H=zF P o ch H:=by
 cases o<;>simp only[zF,Op.operands] at h ⊢ <;>first
  |rfl
  |(simp at h;simp[h];done)
  |skip
 ·rename_i t n ew;rw[Jw λx ag=>h x (by simpa using ag)]
 ·rename_i t r;cases r<;>rfl
theorem abf{o:Op}{l:Nat}(h: ∀x∈o.operands,ey R x=ey ch x):rW P o R l=rW P o ch l:=by
 unfold rW;rw[aat h]
theorem Z_{o:Op}{H:J}(h: ∀x∈o.operands,ey R x=ey ch x):tM P o R H=tM P o ch H:=by
 cases o<;>simp only[tM,Op.operands] at h ⊢ <;>first
  |rfl
  |(simp at h;simp[h];done)
  |skip
 ·rename_i c;cases aS:c.callee with
  |builtin b=>
   simp only[Call.operands,aS] at h ⊢;cases bV:c.args.toList with
   |nil=>cases b<;>rfl
   |cons s r=>
    cases r with
    |nil=>cases b<;>rfl
    |cons x r=>
     cases r with
     |nil=>
      have U:s∈c.args.toList:=by simp[bV]
      have aa:x∈c.args.toList:=by simp[bV]
      cases b<;>first
       |rfl
       |(simp only;rw[h s (by simpa using U),h x (by simpa using aa)])
     |cons y r=>cases b<;>rfl
  |value f=>rfl
  |invoke r m=>rfl
theorem ZT{c:Call}(h: ∀x∈c.operands,ey R x=ey ch x):u3 R c=u3 ch c:=by
 unfold u3;cases aS:c.callee with
 |builtin b=>rfl
 |value f=>
  simp only[Call.operands,aS] at h ⊢;rw[h f (by simp),Bi λx ag=>h x (by simp at ag ⊢;exact .inr ag)]
 |invoke r m=>rfl
theorem v6.congr{call:av}{o:Op}{H:J}{k:K}(h: ∀x∈o.operands,ey R x=ey ch x)(ah:v6 P call o R H k):v6 P call o ch H k:=by
 cases k with
 |skip=>exact ah
 |pure v=>exact(aaw h).symm.trans ah
 |read v=>exact(O0 h).symm.trans ah
 |new v b=>exact(abf h).symm.trans ah
 |hx v H'=>
  obtain⟨U,aa|⟨c,g,cl,rfl,aa,ae⟩⟩:=ah
  ·exact⟨U,.inl ((Z_ h).symm.trans aa)⟩
  ·exact⟨U,.inr ⟨c,g,cl,rfl,(ZT h).symm.trans aa,ae⟩⟩
end congr
def zT(P:Program)(m:Sem Next)(w:World)(next:Value->World->Prop):Prop:=
 match m.run P w with
 | .ok (.value x) b4=>next x b4
 | .ok (.enter f args) b4=>Calls P f args b4 λ
  | .returned x,Zh=>next x Zh
  |_,_=>False
 |_=>False
def wP(E:Env)(P:Program)(g:Nat)(args:List I)(H:J)(v:I)(H':J):Prop:=
 ∀(ρ:Env) (w:World) (xs:List Value),Rel ρ H w->ol E ρ H.next H'.next->dI ρ args xs->H.next<=H'.next->
  ∀next:Value->World->Prop,(∀x b4 cY,cW cY v x->Step ρ H w cY H' b4->next x b4)->zT P (callFunc g xs.toArray) w next
def ry(E:Env)(P:Program)(call:av):Prop:= ∀g args H v H',call g args H=some (v,H')->wP E P g args H v H'
section
variable {E:Env}{P:Program}{call:av}{ρ:Env}{H H':J}{w:World}{R:ci}{a:Act}{o:Oper}{v:I}{wz:Act->World->Prop}{Q:Exit->Act->World->Prop}
theorem To(h:qL P o.op R=some v)(a8:hF ρ R a)(ah: ∀x,cW ρ v x->wz (a.put o.dst x) w):o.wp P a w wz Q:=by
 obtain⟨x,aI,bc⟩:=aax h a8 w;unfold Oper.wp;rw[aI];exact ah x bc
theorem Ts(ce:Rel ρ H w)(h:mO P o.op R H=some v)(a8:hF ρ R a)(ah: ∀x,cW ρ v x->wz (a.put o.dst x) w):o.wp P a w wz Q:=by
 obtain⟨x,aI,bc⟩:=aay ce h a8;unfold Oper.wp;rw[aI];exact ah x bc
theorem Vf{l:Nat}{b:dY}(h:rW P o.op R l=some (v,b))(a8:hF ρ R a)(al:ρ l=none)
  (ah: ∀x b4 cY loc,cW cY v x->ρ.le cY->(∀k,k≠l->cY k=ρ k)->cY l=some loc->w.heap.size<=loc.block->b.uu=true->qK cY b4 loc b->
   b4.os=w.os->b4.tape=w.tape->b4.output=w.output->w.heap.size<=b4.heap.size->(∀k,k<w.heap.size->b4.heap[k]? =w.heap[k]?)->wz (a.put o.dst x) b4):o.wp P a w wz Q:=by
 obtain⟨x,b4,cY,loc,aI,bc,dq,eZ,hE,FR,NU,apf,wA,anC,MJ,MK,anD⟩:=abg h a8 al w;unfold Oper.wp;rw[aI];exact ah x b4 cY loc bc dq eZ hE FR NU apf wA anC MJ MK anD
theorem TM(oU:ry E P call)(ce:Rel ρ H w)(al:ol E ρ H.next H'.next)(h:v6 P call o.op R H (.hx v H'))(a8:hF ρ R a)
  (ah: ∀x b4 cY,cW cY v x->Step ρ H w cY H' b4->wz (a.put o.dst x) b4):o.wp P a w wz Q:=by
 obtain⟨aU,U|⟨c,g,cl,aS,aa,ae⟩⟩:=h
 ·obtain⟨n,x,b4,cY,aI,bc,dq,eZ⟩:=aaa ce U (al.new _ (bN _)) a8;unfold Oper.wp;rw[aI];unfold WB at bc;split at bc
  ·subst bc;exact ah _ b4 cY dq eZ
  ·subst bc;exact ah _ b4 cY dq eZ
  ·exact bc.elim
 ·unfold u3 at aa;split at aa
  ·rename_i f amr;split at aa
   ·rename_i g' first captured wc
    split at aa
    ·rename_i FJ tf;simp only[bF,dw] at aa;obtain⟨rfl,rfl⟩:=aa;have am:=gX a8 wc;have aB:=Bj a8 tf;generalize he:a.eval f=z at am;cases am with|func _ _ _ rb c' cD cu=>
     have uI:=oU _ _ _ _ _ ae ρ w _ ce al ((cD.append aB).append cu) aU (λx b4=>wz (a.put o.dst x) b4) (λx b4 cY=>ah x b4 cY);have oy:(execOp a.eval o).run P w=(callFunc g' ((rb++c.args.toList.map a.eval++c').toArray)).run P w:=by
      unfold execOp;rw[aS];simp only[resolve,amr,he,Deferred.ofValue,pure_bind,invoke]
      congr 2
      rw[map_toArray a.eval];simp
     unfold Oper.wp;rw[oy];unfold zT at uI;split at uI
     ·rename_i e;rw[e];exact uI
     ·rename_i e;rw[e];refine Calls.mono uI λpk Zh b0=> ?_
      cases pk<;>first|exact b0|exact b0.elim
     ·exact uI.elim
    ·cases aa
   ·cases aa
  ·cases aa
end
end
section
def sz(acc:List Nat):List Edge->Nat
 |[]=>0
 |e::es=>if Region.binds .any e then 2^e.on|||(acc[e.on]?.getD 0|||sz acc es) else sz acc es
def u6:List Oper->List Nat->List Nat
 |[],acc=>acc
 |o::os,acc=>u6 os (acc++[sz acc o.after.toList])
def hh(ops:Array Oper):List Nat:=u6 ops.toList []
def gr(ms:List Nat)(j i:Nat):Bool:=(ms[i]?.getD 0).testBit j
theorem OS: ∀(os pre:List Oper) (acc:List Nat),acc.length=pre.length->(∀i o,pre[i]? =some o->acc[i]? =some (sz (acc.take i) o.after.toList))->
  ∀i o,(pre++os)[i]? =some o->(u6 os acc)[i]? =some (sz ((u6 os acc).take i) o.after.toList)
 |[],pre,acc,az,h,i,o,bt=>by simpa [u6] using h i o (by simpa using bt)
 |p::os,pre,acc,az,h,i,o,bt=>by
  unfold u6;refine OS os (pre++[p]) _ (by simp[az]) (λj q bH=> ?_) i o (by simpa using bt);rcases Nat.lt_or_ge j pre.length with et|wg
  ·rw[List.getElem?_append_left et] at bH;rw[List.getElem?_append_left Z,h j q bH,List.take_append_of_le_length Z]
  ·rw[List.getElem?_append_right wg] at bH;have:j=pre.length:=by
    have:=(List.getElem?_eq_some_iff.1 bH).1;simp at this;omega
   subst this;simp at bH;subst bH;rw[List.getElem?_append_right Z,<-az];simp
theorem PZ{ops:Array Oper}{i:Nat}{o:Oper}(h:ops[i]? =some o):(hh ops)[i]? =some (sz ((hh ops).take i) o.after.toList):=
 OS ops.toList [] [] rfl (by simp) i o (by simpa using h)
theorem Jp{acc:List Nat}{e:Edge}: ∀{es:List Edge},e∈es->Region.binds .any e=true->(sz acc es).testBit e.on=true
 |[],h,_=>by simp at h
 |d::es,h,ax=>by
  unfold sz;rcases List.mem_cons.1 h with rfl|h
  ·rw[if_pos ax];simp[Nat.testBit_two_pow_self]
  ·split
   ·simp[Jp h ax]
   ·exact Jp h ax
theorem Jy{acc:List Nat}{j:Nat}: ∀{es:List Edge},(sz acc es).testBit j=true-> ∃e∈es,Region.binds .any e=true/\(j=e.on\/(acc[e.on]?.getD 0).testBit j=true)
 |[],h=>by simp[sz] at h
 |d::es,h=>by
  unfold sz at h;split at h
  ·rename_i ax;simp only[Nat.testBit_or,Bool.or_eq_true] at h;rcases h with h|h|h
   ·refine⟨d,by simp,ax,.inl ?_⟩;rw[Nat.testBit_two_pow] at h;simpa using(of_decide_eq_true h).symm
   ·exact⟨d,by simp,ax,.inr h⟩
   ·obtain⟨e,U,aa,ae⟩:=Jy h;exact⟨e,by simp[U],aa,ae⟩
  ·obtain⟨e,U,aa,ae⟩:=Jy h;exact⟨e,by simp[U],aa,ae⟩
def B9(L:Nat->Bool)(o:Oper):Prop:= ∀e∈o.after,Region.binds .any e=true->L e.on=true
def DZ(ops:Array Oper)(L:Nat->Bool):Prop:= ∀i o,ops[i]? =some o->L i=true->B9 L o
theorem tA{ops:Array Oper}{L:Nat->Bool}(aS:DZ ops L): ∀(i:Nat) (o:Oper),ops[i]? =some o->B9 L o-> ∀j,gr (hh ops) j i=true->L j=true:=by
 intro i
 induction i using Nat.strongRecOn with
 |_ i aT=>
  intro o bt hw j bH;unfold gr at bH;rw[PZ bt] at bH;simp only[Option.getD_some] at bH;obtain⟨e,U,aa,ae⟩:=Jy bH;have gH:=hw e (by simpa using U) aa;rcases ae with rfl|ae
  ·exact gH
  ·rcases Nat.lt_or_ge e.on i with et|wg
   ·rw[List.getElem?_take_of_lt et] at ae;cases Ff:ops[e.on]? with
    |none=>
     cases hm:(hh ops)[e.on]? with
     |none=>rw[hm] at ae;simp at ae
     |some m=>
      exfalso;have hlen: ∀(os:List Oper) (acc:List Nat),(u6 os acc).length=acc.length+os.length:=by
       intro os
       induction os with
       |nil=>intro acc;simp[u6]
       |cons o os aT=>intro acc;simp[u6,aT];omega
      have am:=(List.getElem?_eq_some_iff.1 hm).1;have aB:(hh ops).length=ops.size:=by unfold hh;rw[hlen];simp
      have aG:ops.size<=e.on:=by simpa using Ff
      omega
    |some Dk=>exact aT e.on et Dk Ff (aS _ _ Ff gH) j ae
   ·rw[List.getElem?_eq_none (by simp;omega)] at ae;simp at ae
theorem afQ{ops:Array Oper}{i:Nat}{o:Oper}(bt:ops[i]? =some o){e:Edge}(he:e∈o.after)(ax:Region.binds .any e=true):gr (hh ops) e.on i=true:=by
 unfold gr;rw[PZ bt];exact Jp (by simpa using he) ax
def tD(ops:Array Oper)(R:ci)(o:Oper):Bool:=
 match o.guard with
 |none=>true
 |some (j,want)=>match ops[j]? with
  |some q=>(match q.dst with
   |some d=>(match R.get d with
    | .bool b=>b==want
    |_=>false)
   |none=>false)
  |none=>false
theorem Oy{ρ:Env}{ops:Array Oper}{R:ci}{a:Act}(a8:hF ρ R a)(o:Oper):Region.wanted o (yielded ops a.tmps)=tD ops R o:=by
 unfold Region.wanted tD;cases aZ:o.guard with
 |none=>rfl
 |some p=>
  obtain⟨j,want⟩:=p;simp only
  unfold yielded;cases bH:ops[j]? with
  |none=>simp
  |some q=>
   cases bd:q.dst with
   |none=>simp[bd]
   |some d=>
    simp only[Option.bind_some,bd];have U:=a8.get d;rw[Array.getD_eq_getD_getElem?] at U;cases bz:a.tmps[d]? with
    |none=>
     rw[bz] at U;simp only[Option.getD_none] at U;generalize bA:R.get d=v at U;cases v<;>first|rfl|(exfalso;cases U)
    |some x=>
     rw[bz] at U;simp only[Option.getD_some] at U;generalize bA:R.get d=v at U;cases U<;>first|rfl|(simp;done)
theorem ZV{ops:Array Oper}{R ch:ci}{o:Oper}(h: ∀d∈o.looksAt ops,R.get d=ch.get d):tD ops R o=tD ops ch o:=by
 unfold tD;cases aZ:o.guard with
 |none=>rfl
 |some p=>
  obtain⟨j,want⟩:=p;simp only
  cases bH:ops[j]? with
  |none=>rfl
  |some q=>
   cases bd:q.dst with
   |none=>simp[bd]
   |some d=>
    simp only[bd];rw[h d (by simp[Oper.looksAt,aZ,bH,bd])]
theorem ZI{ops:Array Oper}{R ch:ci}{o:Oper}(h: ∀d∈o.looksAt ops,R.get d=ch.get d): ∀x∈o.op.operands,ey R x=ey ch x:=by
 intro x ag;cases x with
 |tmp t=>
  simp only[ey];rw[h t ?_];unfold Oper.looksAt;refine List.mem_append.2 (.inl ?_);rw[List.mem_filterMap];exact⟨.tmp t,by simpa using ag,rfl⟩
 |const v=>rfl
 |global g=>rfl
 |func f=>rfl
structure dO where
 i:Nat
 o:Oper
 R:ci
 k:K
def nz(P:Program)(call:av)(ops:Array Oper)(o:Oper)(R:ci)(H:J):Option K:=
 match tD ops R o with
 |true=>step1 P call o.op R H
 |false=>some .skip
def canRun(P:Program)(call:av)(ops:Array Oper):List Nat->ci->J->Option (List dO×ci×J)
 |[],R,H=>some ([],R,H)
 |i::is,R,H=>match ops[i]? with
  |none=>none
  |some o=>match nz P call ops o R H with
   |none=>none
   |some k=>match R.put o.dst k.val with
    |none=>none
    |some ch=>match canRun P call ops is ch (k.heap H) with
     |none=>none
     |some (T,fb,dR)=>some (⟨i,o,R,k⟩::T,fb,dR)
def eS:List dO->J->J
 |[],H=>H
 |t::ts,H=>eS ts (t.k.heap H)
theorem sr(A B:List dO)(H:J):eS (A++B) H=eS B (eS A H):=by
 induction A generalizing H with
 |nil=>rfl
 |cons t A aT=>simp[eS,aT]
def kL(L:Nat->Bool)(d:Nat):List dO->I->I
 |[],v=>v
 |t::ts,v=>kL L d ts (if L t.i=true/\t.o.dst=some d then t.k.val else v)
theorem JC(L:Nat->Bool)(d:Nat)(A B:List dO)(v:I):kL L d (A++B) v=kL L d B (kL L d A v):=by
 induction A generalizing v with
 |nil=>rfl
 |cons t A aT=>simp[kL,aT]
theorem Dz{L L':Nat->Bool}{d:Nat}: ∀{A:List dO} {v:I},(∀t∈A,t.o.dst=some d->L t.i=L' t.i)->kL L d A v=kL L' d A v
 |[],_,_=>rfl
 |t::A,v,h=>by
  simp only[kL];have:(L t.i=true/\t.o.dst=some d)↔(L' t.i=true/\t.o.dst=some d):=by
   constructor
   ·rintro⟨U,aa⟩;exact⟨by rw[<-h t (by simp) aa];exact U,aa⟩
   ·rintro⟨U,aa⟩;exact⟨by rw[h t (by simp) aa];exact U,aa⟩
  simp only[this];exact Dz λu hu=>h u (by simp[hu])
theorem Gh{L:Nat->Bool}{d:Nat}: ∀{A:List dO} {v:I},(∀t∈A,t.o.dst=some d->L t.i=false)->kL L d A v=v
 |[],_,_=>rfl
 |t::A,v,h=>by
  simp only[kL];rw[if_neg (by rintro⟨U,aa⟩;rw[h t (by simp) aa] at U;cases U)];exact Gh λu hu=>h u (by simp[hu])
theorem tx{P:Program}{call:av}{ops:Array Oper}: ∀{is:List Nat} {R:ci} {H:J} {T:List dO} {fb:ci} {dR:J},canRun P call ops is R H=some (T,fb,dR)->
  T.map (·.i)=is/\dR=eS T H/\fb.size=R.size/\ ∀d,fb.get d=kL (λ_=>true) d T (R.get d)
 |[],R,H,T,fb,dR,h=>by
  simp only[canRun,bF,dw] at h;obtain⟨rfl,rfl,rfl⟩:=h;exact⟨rfl,rfl,rfl,λ_=>rfl⟩
 |i::is,R,H,T,fb,dR,h=>by
  simp only[canRun] at h;split at h
  ·cases h
  ·rename_i o bt;split at h
   ·cases h
   ·rename_i k ah;split at h
    ·cases h
    ·rename_i ch lm;split at h
     ·cases h
     ·rename_i Zk XL XK bZ;simp only[bF,dw] at h;obtain⟨rfl,rfl,rfl⟩:=h;obtain⟨aI,bc,dq,eZ⟩:=tx bZ;refine⟨by simp[aI],bc,by rw[dq,ci.BF lm],λd=> ?_⟩;rw[eZ d,ci.DQ lm d];simp[kL]
theorem Kd{P:Program}{call:av}{ops:Array Oper}: ∀{A:List dO} {is:List Nat} {R:ci} {H:J} {t:dO} {B:List dO} {fb:ci} {dR:J},canRun P call ops is R H=some (A++t::B,fb,dR)->
  ops[t.i]? =some t.o/\(∀d,t.R.get d=kL (λ_=>true) d A (R.get d))/\nz P call ops t.o t.R (eS A H)=some t.k/\(∀d,t.o.dst=some d->d<R.size)
 |A,[],R,H,t,B,fb,dR,h=>by
  simp only[canRun,bF,dw] at h;have:=h.1;simp at this
 |A,i::is,R,H,t,B,fb,dR,h=>by
  simp only[canRun] at h;split at h
  ·cases h
  ·rename_i o bt;split at h
   ·cases h
   ·rename_i k ah;split at h
    ·cases h
    ·rename_i ch lm;split at h
     ·cases h
     ·rename_i Zk XL XK bZ;simp only[bF,dw] at h;obtain⟨U,rfl,rfl⟩:=h;cases A with
      |nil=>
       simp only[List.nil_append,List.cons.injEq] at U;obtain⟨rfl,rfl⟩:=U;refine⟨bt,λ_=>rfl,ah,λd bd=> ?_⟩;simp only at bd;rw[bd] at lm;exact ci.Vl lm
      |cons u A=>
       simp only[List.cons_append,List.cons.injEq] at U;obtain⟨rfl,rfl⟩:=U;obtain⟨aI,bc,dq,eZ⟩:=Kd bZ;refine⟨aI,λd=> ?_,dq,λd bd=>by rw[<-ci.BF lm];exact eZ d bd⟩;rw[bc d,ci.DQ lm d];simp[kL]
def iH:J->List dO->Prop
 |_,[]=>True
 |H,t::ts=>H.next<=(t.k.heap H).next/\iH (t.k.heap H) ts
theorem iH.append: ∀{A B:List dO} {H:J},iH H (A++B)->iH H A/\iH (eS A H) B
 |[],_,_,h=>⟨trivial,h⟩
 |_::A,_,_,h=>by
  obtain⟨U,aa⟩:=h;obtain⟨ae,am⟩:=iH.append (A:=A) aa;exact⟨⟨U,ae⟩,am⟩
theorem iH.le: ∀{A:List dO} {H:J},iH H A->H.next<=(eS A H).next
 |[],_,_=>bN _
 |_::A,_,h=>Nat.le_trans h.1 (iH.le (A:=A) h.2)
theorem BB{P:Program}{call:av}{ops:Array Oper}{o:Oper}{R:ci}{H:J}{k:K}(h:nz P call ops o R H=some k):
  (tD ops R o=true/\v6 P call o.op R H k)\/(tD ops R o=false/\k= .skip):=by
 unfold nz at h;split at h
 ·rename_i hw;exact .inl ⟨hw,afz h⟩
 ·rename_i hw;simp only[bF] at h;exact .inr ⟨hw,h.symm⟩
theorem PV{P:Program}{call:av}{ops:Array Oper}{o:Oper}{R:ci}{H:J}{k:K}(h:nz P call ops o R H=some k)(ah:k.jm=true):zg o.op=true:=by
 unfold nz at h;split at h
 ·exact acH h ah
 ·simp only[bF] at h;subst h;cases ah
theorem J4{P:Program}{call:av}{ops:Array Oper}{o:Oper}{R:ci}{H:J}{k:K}(h:nz P call ops o R H=some k):H.next<=(k.heap H).next:=by
 rcases BB h with⟨_,h⟩|⟨_,rfl⟩
 ·cases k with
  |hx v H'=>exact h.1
  |new v b=>simp[K.heap]
  |_=>exact bN _
 ·exact bN _
theorem Dw{P:Program}{call:av}{ops:Array Oper}: ∀{is:List Nat} {R:ci} {H:J} {T:List dO} {fb:ci} {dR:J},canRun P call ops is R H=some (T,fb,dR)->iH H T
 |[],R,H,T,fb,dR,h=>by
  simp only[canRun,bF,dw] at h;obtain⟨rfl,rfl,rfl⟩:=h;trivial
 |i::is,R,H,T,fb,dR,h=>by
  simp only[canRun] at h;split at h
  ·cases h
  ·rename_i o bt;split at h
   ·cases h
   ·rename_i k ah;split at h
    ·cases h
    ·split at h
     ·cases h
     ·rename_i Zk XL XK bZ;simp only[bF,dw] at h;obtain⟨rfl,rfl,rfl⟩:=h;exact⟨J4 ah,Dw bZ⟩
def hW(L:Nat->Bool):List dO->J->Nat->Option dY
 |[],_,_=>none
 |t::ts,H,l=>match t.k with
  | .new _ b=>if l=H.next then(if L t.i=true then some b else none) else hW L ts (H.push b) l
  |k=>hW L ts (k.heap H) l
theorem DG{L:Nat->Bool}: ∀{T:List dO} {H:J} {l:Nat} {b:dY},iH H T->hW L T H l=some b->H.next<=l
 |[],_,_,_,_,h=>by cases h
 |t::ts,H,l,b,hm,h=>by
  unfold hW at h;split at h
  ·rename_i v fq ah;split at h
   ·omega
   ·have:=DG (by have:=hm.2;rwa[ah] at this) h;simp at this;omega
  ·have U:=hm.1;have:=DG hm.2 h;omega
theorem Ds{L L':Nat->Bool}: ∀{T:List dO} {H:J},(∀t∈T,∀v b,t.k= .new v b->L t.i=L' t.i)->hW L T H=hW L' T H
 |[],_,_=>rfl
 |t::ts,H,h=>by
  funext l
  unfold hW;split
  ·rename_i v b ah;rw[h t (by simp) v b ah,Ds (T:=ts) (λu hu=>h u (by simp[hu]))]
  ·rw[Ds (T:=ts) (λu hu=>h u (by simp[hu]))]
theorem Dx{L:Nat->Bool}{t:dO}{ts:List dO}{H:J}(h: ∀v b,t.k≠ .new v b):hW L (t::ts) H=hW L ts (t.k.heap H):=by
 funext l
 show(match t.k with
  | .new _ b=>if l=H.next then(if L t.i=true then some b else none) else hW L ts (H.push b) l
  |k=>hW L ts (k.heap H) l)=_
 split
 ·rename_i v b ah;exact absurd ah (h v b)
 ·rfl
theorem P1{L L':Nat->Bool}{t:dO}{v:I}{b:dY}(bz:t.k= .new v b)(gH:L t.i=false)(p9:L' t.i=true): ∀{C D:List dO} {H:J},iH H (C++t::D)->
  (∀u∈C,L u.i=L' u.i)->(∀u∈D,L u.i=L' u.i)->
  hW L' (C++t::D) H=(λk=>if k=(eS C H).next then some b else hW L (C++t::D) H k)/\hW L (C++t::D) H (eS C H).next=none
 |[],D,H,hm,tp,NY=>by
  constructor
  ·funext k
   simp only[List.nil_append,eS,hW,bz,gH,p9,if_true,Bool.false_eq_true,if_false];rw[Ds (T:=D) λu hu _ _ _=>NY u hu];split<;>rfl
  ·simp[hW,bz,gH,eS]
 |c::C,D,H,hm,tp,NY=>by
  obtain⟨U,aa⟩:=hm;obtain⟨aI,bc⟩:=P1 bz gH p9 (C:=C) (D:=D) aa (λu hu=>tp u (by simp[hu])) NY;by_cases aS: ∃dr fq,c.k= .new dr fq
  ·obtain⟨dr,fq,aS⟩:=aS;have hle:(c.k.heap H).next<=(eS C (c.k.heap H)).next:=(iH.append aa).1.le
   rw[aS] at aI bc hle;simp only[K.heap,J.b2] at hle aI bc;constructor
   ·funext k
    simp only[List.cons_append,hW,aS,eS,K.heap];rw[<-tp c (by simp),aI];by_cases ah:k=H.next
    ·subst ah;simp only[if_true];by_cases ag:H.next=(eS C (H.push fq)).next
     ·omega
     ·simp only[ag,if_false]
    ·simp only[ah,if_false];by_cases ag:k=(eS C (H.push fq)).next
     ·simp only[ag,if_true]
     ·simp only[ag,if_false]
   ·simp only[List.cons_append,hW,aS,eS,K.heap];rw[if_neg Z];exact bc
  ·have aU: ∀v b,c.k≠ .new v b:=λv b h=>aS ⟨v,b,h⟩
   rw[List.cons_append,Dx aU,Dx aU,eS];exact⟨aI,bc⟩
end
section
mutual
def I.beq:I->I->Bool
 | .bool a,.bool b=>a==b
 | .int k n,.int fF m=>decide (k=fF)&&decide (n=m)
 | .str s,.str t=>decide (s=t)
 | .ptr l i c,.ptr l' qm c'=>decide (l=l')&&decide (i=qm)&&decide (c=c')
 | .nilPtr,.nilPtr=>true
 | .aN l i n e c,.aN l' qm cg cN c'=>decide (l=l')&&decide (i=qm)&&decide (n=cg)&&decide (e=cN)&&decide (c=c')
 | .ap,.ap=>true
 | .map l,.map l'=>decide (l=l')
 | .oQ,.oQ=>true
 | .nilFunc,.nilFunc=>true
 | .iface t v,.iface wD dr=>decide (t=wD)&&I.beq v dr
 | .nilIface,.nilIface=>true
 | .agg xs,.agg dX=>jR.beq xs dX
 | .tuple xs,.tuple dX=>jR.beq xs dX
 |_,_=>false
def jR.beq:List I->List I->Bool
  |[],[]=>true
  |x::xs,y::dX=>I.beq x y&&jR.beq xs dX
  |_,_=>false
 end
mutual
theorem I.beq_eq: ∀{a b:I},I.beq a b=true->a=b:=by
 intro a b h;cases a<;>cases b<;>simp only[I.beq] at h<;>first
  |(cases h;done)
  |rfl
  |(simp at h;simp[h];done)
  |skip
 ·simp only[Bool.and_eq_true,decide_eq_true_eq] at h;obtain⟨rfl,h⟩:=h;rw[I.beq_eq h]
 ·rw[jR.beq_eq h]
 ·rw[jR.beq_eq h]
theorem jR.beq_eq: ∀{a b:List I},jR.beq a b=true->a=b:=by
  intro a b h;cases a with
  |nil=>cases b with
   |nil=>rfl
   |cons y dX=>simp[jR.beq] at h
  |cons x xs=>cases b with
   |nil=>simp[jR.beq] at h
   |cons y dX=>
    simp only[jR.beq,Bool.and_eq_true] at h;rw[I.beq_eq h.1,jR.beq_eq h.2]
 end
def D7(ops:Array Oper)(ms:List Nat)(i j:Nat):Bool:=
 match ops[i]?,ops[j]? with
 |some o,some q=>(i != j)&&(!gr ms j i)&&(gr ms i j||o.apart ops q)
 |_,_=>false
def GO(ops:Array Oper)(ms:List Nat):List Nat->Bool
 |[]=>true
 |i::is=>is.all (D7 ops ms i)&&GO ops ms is
theorem Od{ops:Array Oper}{ms:List Nat}: ∀{is:List Nat},GO ops ms is=true->is.Pairwise λi j=>D7 ops ms i j=true
 |[],_=> .nil
 |i::is,h=>by
  simp only[GO,Bool.and_eq_true,List.all_eq_true] at h;exact .cons h.1 (Od h.2)
def So(n:Nat)(o:Oper):Bool:=o.after.toList.all λe=> !Region.binds .any e||decide (e.on<n)
def BU(ops:Array Oper)(ms ord:List Nat):Bool:=
 (List.range ops.size).all (λi=>ord.contains i)&&(ord.all (λi=> !gr ms i i)&&(ops.toList.all (So ops.size)&&GO ops ms ord))
def qM(ms:List Nat):List dO->List Nat->Bool
 |[],_=>true
 |t::ts,ids=>match t.k with
  | .hx _ _=>ids.all (λj=>gr ms j t.i)&&qM ms ts (t.i::ids)
  | .new _ _=>qM ms ts (t.i::ids)
  |_=>qM ms ts ids
theorem Gz{ms:List Nat}: ∀{A:List dO} {t:dO} {B:List dO} {ids:List Nat} {v:I} {H:J},qM ms (A++t::B) ids=true->t.k= .hx v H->
  (∀j∈ids,gr ms j t.i=true)/\ ∀u∈A,u.k.jm=true->gr ms u.i t.i=true
 |[],t,B,ids,v,H,h,bz=>by
  simp only[List.nil_append,qM,bz,Bool.and_eq_true,List.all_eq_true] at h;exact⟨h.1,λu hu=>by simp at hu⟩
 |c::A,t,B,ids,v,H,h,bz=>by
  simp only[List.cons_append,qM] at h;split at h
  ·simp only[Bool.and_eq_true] at h;obtain⟨U,aa⟩:=Gz h.2 bz;refine⟨λj bH=>U j (by simp[bH]),λu hu b0=> ?_⟩;rcases List.mem_cons.1 hu with rfl|hu
   ·exact U _ (by simp)
   ·exact aa u hu b0
  ·obtain⟨U,aa⟩:=Gz h bz;refine⟨λj bH=>U j (by simp[bH]),λu hu b0=> ?_⟩;rcases List.mem_cons.1 hu with rfl|hu
   ·exact U _ (by simp)
   ·exact aa u hu b0
  ·rename_i C1 jT;obtain⟨U,aa⟩:=Gz h bz;refine⟨U,λu hu b0=> ?_⟩;rcases List.mem_cons.1 hu with rfl|hu
   ·exfalso;cases ah:u.k with
    |new v b=>exact jT v b ah
    |hx v H=>exact C1 v H ah
    |_=>rw[ah] at b0;cases b0
   ·exact aa u hu b0
def rT(ms:List Nat)(rd:J->Bool)(i:Nat):List dO->J->Bool
 |[],H=>rd H
 |t::ts,H=>if t.k.jm then(gr ms t.i i||rd H)&&(gr ms i t.i||rT ms rd i ts (t.k.heap H)) else rT ms rd i ts H
theorem Ge{k:K}(h:k.jm=false)(H:J):k.heap H=H:=by
 cases k<;>first|rfl|cases h
theorem KI{ms:List Nat}{rd:J->Bool}{i:Nat}: ∀{A B:List dO} {H:J},rT ms rd i (A++B) H=true->(∀u∈A,u.k.jm=true->gr ms i u.i=false)->
  (∀u A0,B=u::A0->u.k.jm=true/\gr ms u.i i=false)->rd (eS A H)=true
 |[],[],H,h,_,_=>h
 |[],u::B,H,h,_,ig=>by
  obtain⟨U,aa⟩:=ig u B rfl;simp only[List.nil_append,rT,U,if_true,Bool.and_eq_true,Bool.or_eq_true,aa] at h;simpa [eS] using h.1
 |t::A,B,H,h,hS,ig=>by
  simp only[List.cons_append,rT] at h;split at h
  ·rename_i b0;simp only[Bool.and_eq_true,Bool.or_eq_true,hS t (by simp) b0] at h;rw[eS];exact KI (h.2.resolve_left (by simp)) (λu hu=>hS u (by simp[hu])) ig
  ·rename_i b0;rw[eS,Ge (by simpa using b0)];exact KI h (λu hu=>hS u (by simp[hu])) ig
def zh(P:Program)(o:Op)(R:ci)(v:I)(H:J):Bool:=
 match mO P o R H with
 |some u=>I.beq u v
 |none=>false
theorem QW{P:Program}{o:Op}{R:ci}{v:I}{H:J}(h:zh P o R v H=true):mO P o R H=some v:=by
 unfold zh at h;split at h
 ·rename_i u hu;rw[hu,I.beq_eq h]
 ·cases h
def J.only(H:J):J:=match H.get (H.next-1) with
 |some b=>⟨da.put b H.next .leaf (H.next-1),H.next⟩
 |none=>⟨.leaf,H.next⟩
theorem J.GD{H:J}{b:dY}{l:Nat}{x:dY}(h:(H.push b).only.get l=some x):l=H.next/\x=b:=by
 have e:(H.push b).get ((H.push b).next-1)=some b:=J.ca H b;unfold J.only at h;rw[e] at h;simp only[J.get,J.b2,Nat.add_sub_cancel] at h;split at h
 ·by_cases az:H.next=l
  ·subst az;rw[da.Dq _ _ _ _ Z] at h;exact⟨rfl,by simpa using h.symm⟩
  ·rw[da.Dn _ _ _ _ _ az] at h;rw[da.DL] at h;cases h
 ·cases h
def xz(k:K):Bool:=match k with
 | .hx _ _=>false
 |_=>true
def zd(ms:List Nat)(i:Nat):List dO->Bool->Bool
 |[],_=>false
 |t::ts,s=>match t.k with
  | .new _ _=>(s&&gr ms t.i i&&ts.all λu=>xz u.k)||zd ms i ts (s|| !gr ms t.i i)
  | .hx _ _=>zd ms i ts (s|| !gr ms t.i i)
  |_=>zd ms i ts s
def sR(ms:List Nat)(rd:J->Bool)(i:Nat):List dO->J->Bool->Bool
 |[],_,_=>false
 |t::ts,H,s=>match t.k with
  | .new _ b=>bif s&&gr ms t.i i&&ts.all (λu=>xz u.k) then rd (H.push b).only||sR ms rd i ts (H.push b) (s|| !gr ms t.i i) else sR ms rd i ts (H.push b) (s|| !gr ms t.i i)
  | .hx _ H'=>sR ms rd i ts H' (s|| !gr ms t.i i)
  |_=>sR ms rd i ts H s
theorem RT{ms:List Nat}{rd:J->Bool}{i:Nat}: ∀{T:List dO} {H:J} {s:Bool},sR ms rd i T H s=true->
  ∃A u B v b,T=A++u::B/\u.k= .new v b/\gr ms u.i i=true/\(∀x∈B,xz x.k=true)/\rd ((eS A H).push b).only=true
 |[],H,s,h=>by cases h
 |t::ts,H,s,h=>by
  have HN: ∀{H':J} {s':Bool},t.k.heap H=H'->sR ms rd i ts H' s'=true-> ∃A u B v b,t::ts=A++u::B/\u.k= .new v b/\gr ms u.i i=true/\(∀x∈B,xz x.k=true)/\rd ((eS A H).push b).only=true:=by
   intro H' s' e bZ;obtain⟨A,u,B,v,b,aI,bc,dq,eZ,hE⟩:=RT bZ;exact⟨t::A,u,B,v,b,by rw[aI];rfl,bc,dq,eZ,by rw[eS,e];exact hE⟩
  unfold sR at h;split at h
  ·rename_i v b ah;have b0:t.k.heap H=H.push b:=by rw[ah];rfl
   cases aS:(s&&gr ms t.i i&&ts.all λu=>xz u.k) with
   |true=>
    rw[aS,bC,Bool.or_eq_true] at h;simp only[Bool.and_eq_true,List.all_eq_true] at aS;rcases h with h|h
    ·exact⟨[],t,ts,v,b,rfl,ah,aS.1.2,aS.2,h⟩
    ·exact HN b0 h
   |false=>rw[aS,bj] at h;exact HN b0 h
  ·rename_i v H' ah;exact HN (by rw[ah];rfl) h
  ·rename_i U aa;refine HN (Ge ?_ H) h;cases ah:t.k with
   |new v b=>exact absurd ah (U v b)
   |hx v H'=>exact absurd ah (aa v H')
   |_=>rfl
def Cm(ms:List Nat)(rd:J->Bool)(i:Nat)(T:List dO)(H:J):Bool:=
 bif zd ms i T false then rT ms rd i T H||sR ms rd i T H false else rT ms rd i T H
theorem afu{ms:List Nat}{rd:J->Bool}{i:Nat}{T:List dO}{H:J}(h:Cm ms rd i T H=true):rT ms rd i T H=true\/sR ms rd i T H false=true:=by
 unfold Cm at h;cases aS:zd ms i T false with
 |true=>rw[aS,bC,Bool.or_eq_true] at h;exact h
 |false=>rw[aS,bj] at h;exact .inl h
def uf(P:Program)(ms:List Nat)(hR:Nat->Bool)(T:List dO)(H:J):List dO->Bool
 |[]=>true
 |t::ts=>(match t.k with
  | .read v=>hR t.i||Cm ms (zh P t.o.op t.R v) t.i T H
  |_=>true)&&uf P ms hR T H ts
theorem Q8{P:Program}{ms:List Nat}{hR:Nat->Bool}{T:List dO}{H:J}{t:dO}{v:I}(bz:t.k= .read v): ∀{ts:List dO},uf P ms hR T H ts=true->t∈ts->hR t.i=true\/Cm ms (zh P t.o.op t.R v) t.i T H=true
 |[],_,hm=>by simp at hm
 |u::ts,h,hm=>by
  simp only[uf,Bool.and_eq_true] at h;rcases List.mem_cons.1 hm with rfl|hm
  ·have:=h.1;rw[bz] at this;simpa using this
  ·exact Q8 bz h.2 hm
section
variable {P:Program}{call:av}{ops:Array Oper}{ord:List Nat}{iz fb:ci}{H0 dR:J}{T:List dO}{ρ0:Env}{w0:World}{Q:Exit->Act->World->Prop}
def fS(listed:Array Bool)(i:Nat):Bool:=listed.getD i false
theorem QP{i j:Nat}{o q:Oper}(be:ops[i]? =some o)(bH:ops[j]? =some q)(h:D7 ops (hh ops) i j=true):
  i≠j/\gr (hh ops) j i=false/\(gr (hh ops) i j=true\/o.apart ops q=true):=by
 unfold D7 at h;rw[be,bH] at h;simp only[Bool.and_eq_true,bne_iff_ne,ne_eq,Bool.not_eq_true',Bool.or_eq_true] at h;exact⟨h.1.1,h.1.2,h.2⟩
def tied(ops:Array Oper)(ms ord:List Nat)(i:Nat):Bool:=
 ord.all λj=>(j==i)||(match ops[j]? with|some o=> !zg o.op|none=>true)||gr ms j i||gr ms i j
theorem aeI{ms ord:List Nat}{i j:Nat}{o:Oper}(h:tied ops ms ord i=true)(bH:j∈ord)(dM:j≠i)(bt:ops[j]? =some o)(b0:zg o.op=true):gr ms j i=true\/gr ms i j=true:=by
 unfold tied at h;rw[List.all_eq_true] at h;have:=h j bH;rw[bt] at this;simpa [dM,b0] using this
structure Ctx(P:Program)(call:av)(ops:Array Oper)(ord:List Nat)(iz:ci)(H0:J)(T:List dO)(fb:ci)(dR:J):Prop where
 aH:canRun P call ops ord iz H0=some (T,fb,dR)
 Mr:BU ops (hh ops) ord=true
 hx:qM (hh ops) T []=true
 win:uf P (hh ops) (tied ops (hh ops) ord) T H0 T=true
theorem Ctx.Wa(c:Ctx P call ops ord iz H0 T fb dR):T.Pairwise λt u=>D7 ops (hh ops) t.i u.i=true:=by
 have h:=c.Mr;simp only[BU,Bool.and_eq_true] at h;have aa:=Od h.2.2.2;rw[<-(tx c.aH).1] at aa;exact(List.pairwise_map.1 aa)
theorem Ctx.at(c:Ctx P call ops ord iz H0 T fb dR){A B:List dO}{t:dO}(h:T=A++t::B):
  ops[t.i]? =some t.o/\(∀d,t.R.get d=kL (λ_=>true) d A (iz.get d))/\nz P call ops t.o t.R (eS A H0)=some t.k/\(∀d,t.o.dst=some d->d<iz.size):=
 Kd (by rw[<-h];exact c.aH)
theorem Ctx.mem(c:Ctx P call ops ord iz H0 T fb dR){t:dO}(h:t∈T):ops[t.i]? =some t.o:=by
 obtain⟨A,B,h⟩:=List.append_of_mem h;exact(c.at h).1
theorem Ctx.before(c:Ctx P call ops ord iz H0 T fb dR){A B:List dO}{t:dO}(h:T=A++t::B){u:dO}(hu:u∈A):
  u.i≠t.i/\gr (hh ops) t.i u.i=false/\(gr (hh ops) u.i t.i=true\/u.o.apart ops t.o=true):=by
 have bw:=c.Wa;rw[h,List.pairwise_append] at bw;exact QP (c.mem (by rw[h];simp[hu])) (c.mem (by rw[h];simp)) (bw.2.2 u hu t (by simp))
theorem Ctx.after(c:Ctx P call ops ord iz H0 T fb dR){A B:List dO}{t:dO}(h:T=A++t::B){u:dO}(hu:u∈B):
  t.i≠u.i/\gr (hh ops) u.i t.i=false/\(gr (hh ops) t.i u.i=true\/t.o.apart ops u.o=true):=by
 have bw:=c.Wa;rw[h,List.pairwise_append,List.pairwise_cons] at bw;exact QP (c.mem (by rw[h];simp)) (c.mem (by rw[h];simp[hu])) (bw.2.1.1 u hu)
theorem Ctx.looks(c:Ctx P call ops ord iz H0 T fb dR){A B:List dO}{t:dO}(h:T=A++t::B){L:Nat->Bool}(aS:DZ ops L)(hw:B9 L t.o)(gH:L t.i=false):
  ∀d∈t.o.looksAt ops,kL L d T (iz.get d)=t.R.get d:=by
 intro d bd;obtain⟨aI,bc,_,_⟩:=c.at h;rw[bc d,h,JC,kL];rw[if_neg (by rintro⟨U,_⟩;rw[gH] at U;cases U)];rw[Gh (A:=B),Dz (L':=λ_=>true)]
 ·intro u hu Fi;obtain⟨_,_,ae⟩:=c.before h hu;rcases ae with ae|ae
  ·exact tA aS _ _ aI hw _ ae
  ·exact absurd bd ((Oper.apart_spec ae).1 d Fi)
 ·intro u hu Fi;obtain⟨_,_,ae⟩:=c.after h hu;rcases ae with ae|ae
  ·cases MU:L u.i with
   |false=>rfl
   |true=>
    have s_:=c.mem (t:=u) (by rw[h];simp[hu]);have:=tA aS _ _ s_ (aS _ _ s_ MU) _ ae;rw[gH] at this;cases this
  ·exact absurd bd ((Oper.apart_spec ae).2.2 d Fi)
theorem Ctx.ama(c:Ctx P call ops ord iz H0 T fb dR){A B:List dO}{t:dO}(h:T=A++t::B){L L':Nat->Bool}(aS:DZ ops L)(gH:L t.i=false)(p9:L' t.i=true)(aM: ∀j,j≠t.i->L' j=L j)(d:Nat)(v:I):
  kL L' d T v=if t.o.dst=some d then t.k.val else kL L d T v:=by
 have hS: ∀u∈A,u.o.dst=some d->L' u.i=L u.i:=λu hu _=>aM _ (c.before h hu).1
 have ig: ∀u∈B,u.o.dst=some d->L' u.i=L u.i:=λu hu _=>aM _ (Ne.symm (c.after h hu).1)
 rw[h,JC,JC,Dz hS];simp only[kL];rw[Dz ig];by_cases bd:t.o.dst=some d
 ·rw[if_pos ⟨p9,bd⟩,if_pos bd];refine Gh λu hu Fi=> ?_
  obtain⟨_,_,ae⟩:=c.after h hu;rcases ae with ae|ae
  ·cases MU:L u.i with
   |false=>rfl
   |true=>
    have s_:=c.mem (t:=u) (by rw[h];simp[hu]);have:=tA aS _ _ s_ (aS _ _ s_ MU) _ ae;rw[gH] at this;cases this
  ·exact absurd Fi ((Oper.apart_spec ae).2.1 d bd)
 ·rw[if_neg (λx=>bd x.2),if_neg bd,if_neg (λx=>bd x.2)]
theorem jG.turns{N:Nat}{ρ:Env}{w:World}{L:Nat->Bool}: ∀{C D:List dO} {H:J},iH H (C++D)->(∀u∈C,u.k.jm=true->L u.i=true/\ ∃v b,u.k= .new v b)->
  jG ρ0 H0 w0 N (hW L (C++D) H) ρ H w->jG ρ0 H0 w0 N (hW L D (eS C H)) ρ (eS C H) w
 |[],D,H,_,_,m=>m
 |c::C,D,H,hm,tp,m=>by
  by_cases b0:c.k.jm=true
  ·obtain⟨az,v,b,ah⟩:=tp c (by simp) b0;have bw:hW L (c::C++D) H H.next=some b:=by simp[hW,ah,az]
   have m1:=m.XD bw;have hy:iH (H.push b) (C++D):=by have:=hm.2;rw[ah] at this;exact this
   have heq:(λk=>if k=H.next then none else hW L (c::C++D) H k)=hW L (C++D) (H.push b):=by
    funext k
    by_cases e3:k=H.next
    ·rw[if_pos e3];cases bi:hW L (C++D) (H.push b) k with
     |none=>rfl
     |some fq=>have:=DG hy bi;simp at this;omega
    ·rw[if_neg e3];simp[hW,ah,e3]
   rw[heq] at m1;have:=jG.turns hy (λu hu=>tp u (by simp[hu])) m1;rw[eS,ah];exact this
  ·have dM: ∀v b,c.k≠ .new v b:=λv b h=>by rw[h] at b0;exact b0 rfl
   rw[List.cons_append,Dx dM] at m;have sg:=Ge (by simpa using b0) H;rw[eS];rw[sg] at m ⊢;refine jG.turns ?_ (λu hu=>tp u (by simp[hu])) m;have:=hm.2;rwa[sg] at this
structure Inv(ops:Array Oper)(iz:ci)(H0:J)(T:List dO)(N:Nat)(ρ0:Env)(w0:World)(listed:Array Bool)(a:Act)(w:World):Prop where
 size:listed.size=ops.size
 closed:DZ ops (fS listed)
 mid: ∃ρ T1 T2,T=T1++T2/\(∀t∈T1,t.k.jm=true->fS listed t.i=true)/\(∀t∈T2,(∃v H,t.k= .hx v H)->fS listed t.i=false)/\
  jG ρ0 H0 w0 N (hW (fS listed) T2 (eS T1 H0)) ρ (eS T1 H0) w/\ ∃pj:ci,hF ρ pj a/\pj.size=iz.size/\ ∀d,pj.get d=kL (fS listed) d T (iz.get d)
theorem Ctx.final(c:Ctx P call ops ord iz H0 T fb dR){listed:Array Bool}{a:Act}{w:World}(be:Inv ops iz H0 T dR.next ρ0 w0 listed a w)(rX: ∀t∈T,fS listed t.i=true):
  ∃ρ,hF ρ fb a/\Step ρ0 H0 w0 ρ dR w:=by
 obtain⟨ρ,T1,T2,aH,U,aa,m,pj,gm,e0,gC⟩:=be.mid;obtain⟨aI,bc,dq,eZ⟩:=tx c.aH;have j4:=Dw c.aH;rw[aH] at j4;have hy:=(iH.append j4).2;have fr:=jG.turns (C:=T2) (D:=[]) (L:=fS listed) (by simpa using hy) (λu hu b0=>by
  have az:=rX u (by rw[aH];simp[hu]);refine⟨az,?_⟩;cases ah:u.k with
  |new v b=>exact⟨v,b,rfl⟩
  |hx v H=>rw[aa u hu ⟨v,H,ah⟩] at az;cases az
  |_=>rw[ah] at b0;cases b0) (by simpa using m)
 rw[<-sr,<-aH,<-bc] at fr;refine⟨ρ,⟨by rw[dq,<-e0];exact gm.size,λd=> ?_,gm.none⟩,fr.done rfl⟩;have:=gm.get d;rw[gC d,Dz (L':=λ_=>true) (λt bz _=>rX t bz),<-eZ d] at this;exact this
theorem P7{listed:Array Bool}{i:Nat}(h:i∈Region.ready .any ops listed)(aM:listed.size=ops.size):
  ∃o,ops[i]? =some o/\fS listed i=false/\B9 (fS listed) o/\i<ops.size:=by
 unfold Region.ready at h;simp only[List.mem_filter,List.mem_range,Bool.and_eq_true,Bool.not_eq_true'] at h;obtain⟨et,U,aa⟩:=h;have bt:ops[i]? =some ops[i]:=by simp[et]
 refine⟨ops[i],bt,?_,?_,et⟩
 ·unfold fS;rw[Array.getD_eq_getD_getElem?] at U ⊢;have:i<listed.size:=Z;simp[this] at U ⊢;exact U
 ·rw[bt] at aa;simp only[Option.map_some,Option.getD_some,Array.all_eq_true'] at aa;intro e he ax;have:=aa e he;simpa [ax,fS] using this
theorem afk{listed:Array Bool}{i:Nat}{o:Oper}(bt:ops[i]? =some o)(az:fS listed i=false)(hw:B9 (fS listed) o)(aM:listed.size=ops.size):i∈Region.ready .any ops listed:=by
 unfold Region.ready;have et:i<ops.size:=(Array.getElem?_eq_some_iff.1 bt).1;simp only[List.mem_filter,List.mem_range,Bool.and_eq_true,Bool.not_eq_true'];refine⟨et,?_,?_⟩
 ·unfold fS at az;rw[Array.getD_eq_getD_getElem?] at az ⊢;have:i<listed.size:=Z;simp[this] at az ⊢;exact az
 ·rw[bt];simp only[Option.map_some,Option.getD_some,Array.all_eq_true'];intro e he;by_cases ax:Region.binds .any e=true
  ·have:=hw e he ax;unfold fS at this;rw[this];simp
  ·simp[ax]
theorem Ctx.aas(c:Ctx P call ops ord iz H0 T fb dR){listed:Array Bool}(aM:listed.size=ops.size)(aU:Region.ready .any ops listed=[]): ∀t∈T,fS listed t.i=true:=by
 have Ef:=c.Mr;simp only[BU,Bool.and_eq_true,List.all_eq_true,List.mem_range] at Ef;obtain⟨amu,amC,akb,_⟩:=Ef;have WR:=(tx c.aH).1;have key: ∀(n:Nat) (A:List dO) (t:dO) (B:List dO),A.length=n->T=A++t::B->fS listed t.i=true:=by
  intro n
  induction n using Nat.strongRecOn with
  |_ n aT=>
   intro A t B hlen h;have bt:=(c.at h).1;cases az:fS listed t.i with
   |true=>rfl
   |false=>
    have:t.i∈Region.ready .any ops listed:=by
     refine afk bt az (λe he ax=> ?_) aM;have MZ:=afQ bt he ax;have et:e.on<ops.size:=by
      have U:=akb t.o (by
       have:=(Array.getElem?_eq_some_iff.1 bt);obtain⟨aa,ae⟩:=this;rw[<-ae];simp)
      unfold So at U;rw[List.all_eq_true] at U;have aa:=U e (by simpa using he);simpa [ax] using aa
     have kP:=amu e.on et;rw[List.contains_iff_mem,<-WR,List.mem_map] at kP;obtain⟨u,hu,Nj⟩:=kP;rw[h] at hu;rcases List.mem_append.1 hu with hu|hu
     ·obtain⟨NN,apc,hS⟩:=List.append_of_mem hu;rw[<-Nj];refine aT NN.length ?_ NN u (apc++t::B) rfl (by rw[h,hS];simp);rw[<-hlen,hS];simp
     ·rcases List.mem_cons.1 hu with rfl|hu
      ·exfalso;have U:=amC u.i (by rw[<-WR,List.mem_map];exact⟨u,by rw[h];simp,rfl⟩);rw[<-Nj] at MZ;rw[MZ] at U;cases U
      ·exfalso;have U:=(c.after h hu).2.1;rw[Nj,MZ] at U;cases U
    rw[aU] at this;simp at this
 intro t bz;obtain⟨A,B,h⟩:=List.append_of_mem bz;exact key _ A t B rfl h
theorem Qr{p q:Nat->Bool}{i:Nat}: ∀{l:List Nat},i∈l->(∀j,q j=true->p j=true)->p i=true->q i=false->l.countP q<l.countP p
 |[],h,_,_,_=>by simp at h
 |j::l,h,himp,bw,bi=>by
  have hle: ∀l:List Nat,l.countP q<=l.countP p:=λl=>List.countP_mono_left λx _ ag=>himp x ag
  simp only[List.countP_cons];rcases List.mem_cons.1 h with rfl|h
  ·rw[bw,bi];have:=hle l;simp;omega
  ·have:=Qr h himp bw bi;cases aos:q j with
   |true=>rw[himp j aos];simp;omega
   |false=>cases p j<;>simp<;>omega
theorem GN{listed:Array Bool}{i:Nat}(be:i<listed.size)(j:Nat):fS (listed.setIfInBounds i true) j=if j=i then true else fS listed j:=by
 unfold fS;rw[Array.getD_eq_getD_getElem?,Array.getD_eq_getD_getElem?,Array.getElem?_setIfInBounds];by_cases h:i=j
 ·subst h;simp[be]
 ·have bZ: ¬j=i:=λe=>h e.symm
  simp[h,bZ]
end
end
section
section
variable {E:Env}{P:Program}{call:av}{ops:Array Oper}{ord:List Nat}{iz fb:ci}{H0 dR:J}{T:List dO}{ρ0:Env}{w0:World}{Q:Exit->Act->World->Prop}
theorem Ctx.uniq(c:Ctx P call ops ord iz H0 T fb dR){A B:List dO}{t:dO}(h:T=A++t::B){u:dO}(hu:u∈T)(he:u.i=t.i):u=t:=by
 rw[h] at hu;rcases List.mem_append.1 hu with hu|hu
 ·exact absurd he (c.before h hu).1
 ·rcases List.mem_cons.1 hu with rfl|hu
  ·rfl
  ·exact absurd he.symm (c.after h hu).1
def Lt(H0:J)(T:List dO)(N:Nat)(ρ0:Env)(w0:World)(L:Nat->Bool)(ρ:Env)(w:World)(T1 T2:List dO):Prop:=
 T=T1++T2/\(∀t∈T1,t.k.jm=true->L t.i=true)/\(∀t∈T2,(∃v H,t.k= .hx v H)->L t.i=false)/\jG ρ0 H0 w0 N (hW L T2 (eS T1 H0)) ρ (eS T1 H0) w
theorem Ctx.next(c:Ctx P call ops ord iz H0 T fb dR){A B:List dO}{t:dO}(h:T=A++t::B){listed:Array Bool}(aM:listed.size=ops.size)(aS:DZ ops (fS listed))(az:fS listed t.i=false)
  (hw:B9 (fS listed) t.o) {ρ:Env} {pj:ci} {a:Act} {x:Value} {w:World} (gm:hF ρ pj a) (e0:pj.size=iz.size) (gC: ∀d,pj.get d=kL (fS listed) d T (iz.get d)) (ag:cW ρ t.k.val x) {T1 T2:List dO}
  (m:Lt H0 T dR.next ρ0 w0 (fS (listed.setIfInBounds t.i true)) ρ w T1 T2):Inv ops iz H0 T dR.next ρ0 w0 (listed.setIfInBounds t.i true) (a.put t.o.dst x) w:=by
 obtain⟨bt,_,_,bd⟩:=c.at h;have et:t.i<listed.size:=by rw[aM];exact(Array.getElem?_eq_some_iff.1 bt).1
 have p9:fS (listed.setIfInBounds t.i true) t.i=true:=by rw[GN et];simp
 have o9: ∀j,j≠t.i->fS (listed.setIfInBounds t.i true) j=fS listed j:=λj bH=>by rw[GN et];simp[bH]
 have j4: ∀j,fS listed j=true->fS (listed.setIfInBounds t.i true) j=true:=λj bH=>by
  by_cases e:j=t.i
  ·rw[e];exact p9
  ·rw[o9 j e];exact bH
 have amX: ∃ch,pj.put t.o.dst t.k.val=some ch:=by
  cases amw:t.o.dst with
  |none=>exact⟨pj,rfl⟩
  |some d=>
   have:=bd d amw;exact⟨{pj with t:=da.put t.k.val (d+1) pj.t d},by simp only[ci.put];rw[if_pos (by rw[e0];exact this)]⟩
 obtain⟨ch,lm⟩:=amX;refine⟨by simpa using aM,λi o be Yx e he ax=> ?_,ρ,T1,T2,m.1,m.2.1,m.2.2.1,m.2.2.2,ch,gm.put lm ag,by rw[ci.BF lm,e0],λd=> ?_⟩
 ·by_cases cN:i=t.i
  ·subst cN;rw[bt] at be;cases be;exact j4 _ (hw e he ax)
  ·rw[o9 i cN] at Yx;exact j4 _ (aS i o be Yx e he ax)
 ·rw[ci.DQ lm d,c.ama h aS az p9 o9 d,gC d]
theorem Ctx.norm(c:Ctx P call ops ord iz H0 T fb dR){N:Nat}{L:Nat->Bool}{ρ:Env}{w:World}: ∀{T2 T1:List dO},Lt H0 T N ρ0 w0 L ρ w T1 T2->
  ∃CN CO,Lt H0 T N ρ0 w0 L ρ w CN CO/\ ∀u A0,CO=u::A0->u.k.jm=true/\L u.i=false
 |[],T1,m=>⟨T1,[],m,λu A0 h=>by cases h⟩
 |u::T2,T1,m=>by
  by_cases b0:u.k.jm=true/\L u.i=false
  ·exact⟨T1,u::T2,m,λZy A0 h=>by simp only[List.cons.injEq] at h;rw[<-h.1];exact b0⟩
  ·obtain⟨U,aa,ae,am⟩:=m;have j4:=Dw c.aH;rw[U] at j4;have hy:=(iH.append j4).2;have fr:=jG.turns (C:=[u]) (D:=T2) (L:=L) hy (λv bA C3=>by
    have:v=u:=by simpa using bA
    subst this;have az:L v.i=true:=by
     cases bA:L v.i with
     |true=>rfl
     |false=>exact absurd ⟨C3,bA⟩ b0
    refine⟨az,?_⟩;cases ah:v.k with
    |new x b=>exact⟨x,b,rfl⟩
    |hx x H=>rw[ae v (by simp) ⟨x,H,ah⟩] at az;cases az
    |_=>rw[ah] at C3;cases C3) am
   rw[<-sr] at fr;refine c.norm (T2:=T2) (T1:=T1++[u]) ⟨by rw[U];simp,λv bA C3=> ?_,λv bA=>ae v (by simp[bA]),fr⟩;rcases List.mem_append.1 bA with bA|bA
   ·exact aa v bA C3
   ·have:v=u:=by simpa using bA
    subst this;cases bA:L v.i with
    |true=>rfl
    |false=>exact absurd ⟨C3,bA⟩ b0
theorem Kj{L:Nat->Bool}{u:dO}{v:I}{b:dY}(hu:u.k= .new v b)(gH:L u.i=true): ∀{C D:List dO} {H:J},iH H (C++u::D)->hW L (C++u::D) H (eS C H).next=some b
 |[],D,H,_=>by simp[hW,hu,gH,eS]
 |c::C,D,H,hm=>by
  have aT:=Kj hu gH (C:=C) (D:=D) hm.2;have hle: ∀{C:List dO} {H:J},iH H C->H.next<=(eS C H).next:=by
   intro C
   induction C with
   |nil=>intro H _;exact bN _
   |cons x C AF=>intro H h;exact Nat.le_trans h.1 (AF h.2)
  by_cases aU: ∃v b,c.k= .new v b
  ·obtain⟨dr,fq,ah⟩:=aU;have aa:=hle (iH.append hm.2).1;have hy:=hm.2;rw[ah] at aa hy aT;simp only[K.heap,J.b2] at aa aT;simp only[List.cons_append,hW,ah,eS,K.heap];rw[if_neg Z];exact aT
  ·rw[List.cons_append,Dx λv b h=>aU ⟨v,b,h⟩,eS];exact aT
theorem J3{l:Nat}: ∀{C:List dO} {H:J},(∀x∈C,xz x.k=true)->l<H.next->(eS C H).get l=H.get l
 |[],H,_,_=>rfl
 |c::C,H,tp,az=>by
  have aY:=tp c (by simp);rw[eS];cases ah:c.k with
  |new v b=>
   rw[J3 (λx ag=>tp x (by simp[ag])) (by simp only[K.heap,J.b2];omega)];exact J.gD Z
  |hx v H'=>rw[ah] at aY;cases aY
  |_=>exact J3 (λx ag=>tp x (by simp[ag])) az
theorem Rel.af4{ρ:Env}{H:J}{w:World}{b:dY}(h:b≠ .dead-> ∃loc,ρ H.next=some loc/\qK ρ w loc b):Rel ρ (H.push b).only w where
 row l ro esz els aZ:=by
  obtain⟨rfl,rfl⟩:=J.GD aZ;obtain⟨loc,U,aa⟩:=h (by intro e;cases e);exact⟨loc,U,aa⟩
 map l es aZ:=by
  obtain⟨rfl,rfl⟩:=J.GD aZ;obtain⟨loc,U,aa⟩:=h (by intro e;cases e);exact⟨loc,U,aa⟩
 apart l l' loc dz U aa dM _ _:=by
  exfalso;have bf: ∃x,(H.push b).only.get l=some x:=by
   unfold J.rw at U;cases aZ:(H.push b).only.get l with
   |none=>simp[aZ] at U
   |some x=>exact⟨x,rfl⟩
  have a2: ∃x,(H.push b).only.get l'=some x:=by
   unfold J.live at aa;cases aZ:(H.push b).only.get l' with
   |none=>simp[aZ] at aa
   |some x=>exact⟨x,rfl⟩
  obtain⟨x,bf⟩:=bf;obtain⟨y,a2⟩:=a2;exact dM ((J.GD bf).1.trans (J.GD a2).1.symm)
theorem Ctx.any(c:Ctx P call ops ord iz H0 T fb dR)(oU:ry E P call)(pn:E.le ρ0)(ek: ∀ρ a w,hF ρ fb a->Step ρ0 H0 w0 ρ dR w->Q .normal a w):
  ∀(fuel:Nat) (listed:Array Bool) (a:Act) (w:World),Inv ops iz H0 T dR.next ρ0 w0 listed a w->(List.range ops.size).countP (λj=> !fS listed j)<=fuel->wpAny P .any ops Q fuel listed a w:=by
 have Ct: ∀listed a w,Inv ops iz H0 T dR.next ρ0 w0 listed a w->Region.ready .any ops listed=[]->Q .normal a w:=by
  intro listed a w be a8;obtain⟨ρ,U,aa⟩:=c.final be (c.aas be.size a8);exact ek ρ a w U aa
 intro fuel
 induction fuel with
 |zero=>
  intro listed a w be amt;have a8:Region.ready .any ops listed=[]:=by
   rw[List.eq_nil_iff_forall_not_mem];intro i kP;obtain⟨o,U,aa,ae,am⟩:=P7 kP be.size;have ox:0<(List.range ops.size).countP (λj=> !fS listed j):=List.countP_pos_iff.2 ⟨i,by simpa using am,by simp[aa]⟩;omega
  exact⟨a8,Ct _ _ _ be a8⟩
 |succ fuel aT=>
  intro listed a w be amt;refine⟨λa8=>Ct _ _ _ be a8,λi kP=> ?_⟩;obtain⟨o,bt,az,hw,et⟩:=P7 kP be.size;have Ef:=c.Mr;simp only[BU,Bool.and_eq_true,List.all_eq_true,List.mem_range] at Ef;have HE:=Ef.1 i et;rw[List.contains_iff_mem,<-(tx c.aH).1,List.mem_map] at HE;obtain⟨t,bz,rfl⟩:=HE;have aoD:=c.mem bz;obtain rfl:t.o=o:=Option.some.inj (aoD.symm.trans bt);obtain⟨ρ,T1,T2,aI,bc,dq,m,pj,gm,e0,gC⟩:=be.mid;have fO:t.i<listed.size:=by rw[be.size];exact et
  have p9:fS (listed.setIfInBounds t.i true) t.i=true:=by rw[GN fO];simp
  have o9: ∀j,j≠t.i->fS (listed.setIfInBounds t.i true) j=fS listed j:=λj bH=>by rw[GN fO];simp[bH]
  have LA:(List.range ops.size).countP (λj=> !fS (listed.setIfInBounds t.i true) j)<=fuel:=by
   have:=Qr (p:=λj=> !fS listed j) (q:=λj=> !fS (listed.setIfInBounds t.i true) j) (i:=t.i) (l:=List.range ops.size) (by simpa using et)
    (λj bH=>by
     by_cases e:j=t.i
     ·rw[e,p9] at bH;cases bH
     ·simp only[o9 j e] at bH;exact bH) (by simp[az]) (by simp[p9])
   omega
  obtain⟨NM,I4,aY⟩:=List.append_of_mem bz;have UZ: ∀d∈t.o.looksAt ops,pj.get d=t.R.get d:=λd bd=>by rw[gC d];exact c.looks aY be.closed hw az d bd
  have Hg:=ZI UZ;have akn:Region.wanted t.o (yielded ops a.tmps)=tD ops t.R t.o:=(Oy gm t.o).trans (ZV UZ);unfold wpOp;rw[bt];simp only[akn];have still:t.k.jm=false-> ∀x,cW ρ t.k.val x->wpAny P .any ops Q fuel (listed.setIfInBounds t.i true) (a.put t.o.dst x) w:=by
   intro b0 x ag;refine aT _ _ _ (c.next aY be.size be.closed az hw gm e0 gC ag (T1:=T1) (T2:=T2) ⟨aI,λu hu yh=> ?_,λu hu AA=> ?_,?_⟩) LA
   ·have:=bc u hu yh;by_cases e:u.i=t.i
    ·rw[e];exact p9
    ·rw[o9 _ e];exact this
   ·have dM:u.i≠t.i:=λe=>by
     have:=c.uniq aY (by rw[aI];simp[hu]) e;subst this;obtain⟨v,H,ah⟩:=AA;rw[ah] at b0;cases b0
    rw[o9 _ dM];exact dq u hu AA
   ·rw[Ds (L':=fS listed) λu hu v b ah=>o9 _ λe=>by
     have:=c.uniq aY (by rw[aI];simp[hu]) e;subst this;rw[ah] at b0;cases b0]
    exact m
  rcases BB (c.at aY).2.2.1 with⟨C4,ah⟩|⟨C4,ah⟩
  ·rw[C4];simp only[if_true];refine .inl ?_;have Yg:t.k.jm=true-> ∃C D,T2=C++t::D:=λb0=>by
    rw[aI] at bz;rcases List.mem_append.1 bz with bz|bz
    ·have:=bc t bz b0;rw[az] at this;cases this
    ·exact List.append_of_mem bz
   have j4:=Dw c.aH;cases ik:t.k with
   |skip=>rw[ik] at ah;exact ah.elim
   |pure v=>
    rw[ik] at ah;have e3:=v6.congr (λx ag=>(Hg x ag).symm) ah;exact To e3 gm λx ag=>still (by rw[ik];rfl) x (by rw[ik];exact ag)
   |read v=>
    obtain⟨CN,CO,⟨f1,f2,f3,f4⟩,f5⟩:=c.norm (ρ0:=ρ0) (w0:=w0) (N:=dR.next) (L:=fS listed) (ρ:=ρ) (w:=w) (T2:=T2) (T1:=T1) ⟨aI,bc,dq,m⟩;have cp: ∃Dh,Rel ρ Dh w/\mO P t.o.op t.R Dh=some v:=by
     rcases Q8 ik c.win bz with M4|am1
     ·
       refine⟨_,f4.rel,?_⟩;have Ih:mO P t.o.op t.R (eS NM H0)=some v:=by
        rcases BB (c.at aY).2.2.1 with⟨_,qc⟩|⟨ag,_⟩
        ·rw[ik] at qc;exact qc
        ·rw[C4] at ag;cases ag
       have VU: ∀u∈T,u.k.jm=true->u.i≠t.i/\(gr (hh ops) u.i t.i=true\/gr (hh ops) t.i u.i=true):=λu hu b0=>by
        have dM:u.i≠t.i:=λe=>by
         have:=c.uniq aY hu e;subst this;rw[ik] at b0;cases b0
        obtain⟨NN,aq4,U⟩:=List.append_of_mem hu;refine⟨dM,aeI M4 ?_ dM (c.at U).1 (PV (c.at U).2.2.1 b0)⟩;rw[<-(tx c.aH).1,List.mem_map];exact⟨u,hu,rfl⟩
       have amN: ∀u∈NM,u.k.jm=true->fS listed u.i=true:=λu hu b0=>by
        rcases(VU u (by rw[aY];simp[hu]) b0).2 with U|U
        ·exact tA be.closed _ _ bt hw _ U
        ·have:=(c.before aY hu).2.1;rw[U] at this;cases this
       have ake: ∀u∈I4,u.k.jm=true->fS listed u.i=false:=λu hu b0=>by
        have VZ:u∈T:=by rw[aY];simp[hu]
        rcases(VU u VZ b0).2 with U|U
        ·have:=(c.after aY hu).2.1;rw[U] at this;cases this
        ·cases yd:fS listed u.i with
         |false=>rfl
         |true=>
          have s_:=c.mem VZ;have:=tA be.closed _ _ s_ (be.closed _ _ s_ yd) _ U;rw[az] at this;cases this
       have Li:CN++CO=NM++t::I4:=by rw[<-f1,<-aY]
       rcases List.append_eq_append_iff.1 Li with⟨eg,E4,MX⟩|⟨c',x_,lZ⟩
       ·cases eg with
        |nil=>rw[List.append_nil] at E4;rw[<-E4];exact Ih
        |cons u anv=>
         obtain⟨g1,g2⟩:=f5 u (anv++t::I4) MX;have:=amN u (by rw[E4];simp) g1;rw[g2] at this;cases this
       ·have sg: ∀(X:List dO) (H:J),(∀u∈X,u.k.jm=false)->eS X H=H:=by
         intro X
         induction X with
         |nil=>intro H _;rfl
         |cons u X aT=>intro H Zp;rw[eS,Ge (Zp u (by simp))];exact aT H λu hu=>Zp u (by simp[hu])
        rw[x_,sr,sg c' _ ?_]
        ·exact Ih
        ·intro u hu;cases b0:u.k.jm with
         |false=>rfl
         |true=>
          have U:=f2 u (by rw[x_];simp[hu]) b0;have aa:u∈t::I4:=by rw[lZ];simp[hu]
          rcases List.mem_cons.1 aa with rfl|aa
          ·rw[ik] at b0;cases b0
          ·have:=ake u aa b0;rw[U] at this;cases this
     ·rcases afu am1 with HH|oY
      rotate_left
      ·obtain⟨A,u,B,dr,b,g1,g2,g3,g4,g5⟩:=RT oY;refine⟨_,Rel.af4 λax=> ?_,QW g5⟩;have yd:=tA be.closed _ _ bt hw _ g3;have Li:CN++CO=A++u::B:=by rw[<-f1,<-g1]
       rcases List.append_eq_append_iff.1 Li with⟨eg,E4,MX⟩|⟨c',x_,lZ⟩
       ·have bw:=f4.qO (eS A H0).next b (by
         rw[f1] at j4;have hy:=(iH.append j4).2;rw[MX] at hy ⊢;rw[E4,sr];exact Kj g2 yd hy)
        obtain⟨_,_,_,loc,aV,aJ,_⟩:=bw;exact⟨loc,aV,aJ⟩
       ·cases c' with
        |nil=>
         have bw:=f4.qO (eS A H0).next b (by
          rw[f1] at j4;have hy:=(iH.append j4).2;rw[List.nil_append] at lZ;rw[List.append_nil] at x_;rw[<-lZ] at hy ⊢;rw[x_] at hy ⊢;exact Kj (C:=[]) g2 yd hy)
         obtain⟨_,_,_,loc,aV,aJ,_⟩:=bw;exact⟨loc,aV,aJ⟩
        |cons x aqk=>
         simp only[List.cons_append,List.cons.injEq] at lZ;obtain⟨rfl,lZ⟩:=lZ;have ut:(eS CN H0).get (eS A H0).next=some b:=by
          rw[x_,sr,eS,g2];rw[J3 (λx ag=>g4 x (by rw[lZ];simp[ag])) (by simp[K.heap])];exact J.ca _ b
         cases b with
         |row ro esz els=>exact f4.rel.row _ _ _ _ ut
         |map es=>exact f4.rel.map _ _ ut
         |dead=>exact absurd rfl ax
      refine⟨_,f4.rel,?_⟩;rw[show rT (hh ops) (zh P t.o.op t.R v) t.i T H0=rT (hh ops) (zh P t.o.op t.R v) t.i (CN++CO) H0 by rw[<-f1]] at HH;exact QW (KI HH (λu hu yh=>by
       cases ax:gr (hh ops) t.i u.i with
       |false=>rfl
       |true=>
        have s_:=c.mem (t:=u) (by rw[f1];simp[hu]);have:=tA be.closed _ _ s_ (be.closed _ _ s_ (f2 u hu yh)) _ ax;rw[az] at this;cases this) (λu A0 hu=>by
       obtain⟨g1,g2⟩:=f5 u A0 hu;refine⟨g1,?_⟩;cases ax:gr (hh ops) u.i t.i with
       |false=>rfl
       |true=>
        have:=tA be.closed _ _ bt hw _ ax;rw[g2] at this;cases this))
    obtain⟨Dh,du,cp⟩:=cp;rw[<-O0 Hg] at cp;exact Ts du cp gm λx ag=>still (by rw[ik];rfl) x (by rw[ik];exact ag)
   |new v b=>
    obtain⟨C,D,r7⟩:=Yg (by rw[ik];rfl);have U:T=(T1++C)++t::D:=by rw[aI,r7];simp
    have LD:=(c.at U).2.2.1;rcases BB LD with⟨_,js⟩|⟨ag,_⟩
    ·rw[ik] at js;have e3:=v6.congr (λx ag=>(Hg x ag).symm) js;have hy:iH (eS T1 H0) (C++t::D):=by
      have:=j4;rw[aI,r7] at this;exact(iH.append this).2
     obtain⟨aV,aJ⟩:=P1 (L:=fS listed) (L':=fS (listed.setIfInBounds t.i true)) ik az p9 hy
      (λu hu=>(o9 _ (c.before U (by simp[hu])).1).symm) (λu hu=>(o9 _ (Ne.symm (c.after U hu).1)).symm)
     have wg:(eS T1 H0).next<=(eS C (eS T1 H0)).next:=(iH.append hy).1.le
     have Yw:(eS C (eS T1 H0)).next<dR.next:=by
      have aa:=(iH.append hy).2;have ae:=aa.2.le;rw[ik] at ae;have am:dR=eS D (K.heap (eS C (eS T1 H0)) (.new v b)):=by
       rw[(tx c.aH).2.1,U,sr,sr,eS,ik]
      rw[am];simp only[K.heap,J.b2] at ae ⊢;omega
     rw[r7] at m;have amD:rW P t.o.op pj (eS C (eS T1 H0)).next=some (v,b):=by rw[<-sr];exact e3
     refine Vf amD gm (m.fresh _ wg Yw aJ) λx b4 cY loc cD cu eH eE eR gI nj Ba sq ws ND NE=> ?_
     have fr:=m.early wg Yw aJ cu eH eE eR gI nj Ba sq ws ND NE;rw[<-aV] at fr;refine aT _ _ _ (c.next aY be.size be.closed az hw (gm.mono cu) e0 gC (by rw[ik];exact cD) (T1:=T1) (T2:=C++t::D) ⟨by rw[aI,r7],λu hu yh=> ?_,λu hu AA=> ?_,fr⟩) LA
     ·have:=bc u hu yh;by_cases e:u.i=t.i
      ·rw[e];exact p9
      ·rw[o9 _ e];exact this
     ·have dM:u.i≠t.i:=λe=>by
       have:=c.uniq aY (by rw[aI,r7];simp at hu ⊢;exact .inr hu) e;subst this;obtain⟨dr,H,e3⟩:=AA;rw[ik] at e3;cases e3
      rw[o9 _ dM];exact dq u (by rw[r7];exact hu) AA
    ·rw[C4] at ag;cases ag
   |hx v H'=>
    obtain⟨C,D,r7⟩:=Yg (by rw[ik];rfl);have U:T=(T1++C)++t::D:=by rw[aI,r7];simp
    have LD:=(c.at U).2.2.1;rcases BB LD with⟨_,js⟩|⟨ag,_⟩
    ·rw[ik] at js;have e3:=v6.congr (λx ag=>(Hg x ag).symm) js;have hy:iH (eS T1 H0) (C++t::D):=by
      have:=j4;rw[aI,r7] at this;exact(iH.append this).2
     have HB:=c.hx;rw[U] at HB;have Ta:=(Gz HB ik).2;rw[r7] at m;have m1:=jG.turns (C:=C) (D:=t::D) (L:=fS listed) hy (λu hu b0=>by
      have yd:=tA be.closed _ _ bt hw _ (Ta u (by simp[hu]) b0);refine⟨yd,?_⟩;cases Yu:u.k with
      |new x b=>exact⟨x,b,rfl⟩
      |hx x H=>rw[dq u (by rw[r7];simp[hu]) ⟨x,H,Yu⟩] at yd;cases yd
      |_=>rw[Yu] at b0;cases b0) m
     rw[Dx (λv b h=>by rw[ik] at h;cases h),ik] at m1;simp only[K.heap] at m1;have s8:iH H' D:=by have:=(iH.append hy).2.2;rw[ik] at this;exact this
     have anX:dR=eS D H':=by rw[(tx c.aH).2.1,U,sr,eS,ik];rfl
     have dU:H'.next<=dR.next:=by rw[anX];exact s8.le
     rw[sr] at e3;refine TM (H:=eS C (eS T1 H0)) (H':=H') oU m1.rel ⟨λl g1 g2=>m1.fresh l g1 Z ?_,Env.le_trans pn m1.le⟩ e3 gm λx b4 cY g1 g2=> ?_
     ·cases bi:hW (fS listed) D H' l with
      |none=>rfl
      |some b=>have:=DG s8 bi;omega
     ·have m2:=m1.step g2 dU (λl b bi=>DG s8 bi);refine aT _ _ _ (c.next aY be.size be.closed az hw (gm.mono g2.le) e0 gC (by rw[ik];exact g1) (T1:=T1++C++[t]) (T2:=D) ⟨by rw[U];simp,λu hu yh=> ?_,λu hu AA=> ?_,?_⟩) LA
      ·by_cases e:u.i=t.i
       ·rw[e];exact p9
       ·rw[o9 _ e];simp only[List.mem_append,List.mem_singleton] at hu;rcases hu with(hu|hu)|rfl
        ·exact bc u hu yh
        ·exact tA be.closed _ _ bt hw _ (Ta u (by simp[hu]) yh)
        ·exact absurd rfl e
      ·rw[o9 _ (Ne.symm (c.after U hu).1)];exact dq u (by rw[r7];simp[hu]) AA
      ·have FU:eS (T1++C++[t]) H0=H':=by rw[sr,eS,ik];rfl
       rw[FU,Ds (L':=fS listed) λu hu v b ah=>o9 _ (Ne.symm (c.after U hu).1)];exact m2
    ·rw[C4] at ag;cases ag
  ·rw[C4];simp only[Bool.false_eq_true,if_false];exact still (by rw[ah];rfl) undef (by rw[ah];exact .tuple [] [] .nil)
theorem afB{id:Nat}{a:Act}{w:World}(hm:P.follows .mixedOrders=true)(oU:ry E P call)(c:Ctx P call ops ord iz H0 T fb dR)(ce:Rel ρ0 H0 w)(al:ol E ρ0 H0.next dR.next)(a8:hF ρ0 iz a)
  (ek: ∀ρ a b4,hF ρ fb a->Step ρ0 H0 w ρ dR b4->Q .normal a b4):(Code.region id ops true).wp P Q a w:=by
 have HD: ∀j,fS (Array.replicate ops.size false) j=false:=λj=>by
  unfold fS;rw[Array.getD_eq_getD_getElem?];by_cases h:j<ops.size<;>simp[h]
 refine wp_region_any hm (c.any (ρ0:=ρ0) (w0:=w.drew) oU al.le (λρ a b4 U aa=>ek ρ a b4 U ?_) _ _ _ _ ⟨by simp,λi o _ az=>absurd az (by rw[HD];simp),ρ0,[],T,rfl,by simp,λt _ _=>HD _,?_,iz,a8,rfl,λd=> ?_⟩ ?_)
 ·exact⟨aa.le,aa.next,aa.bo,aa.rel,aa.os,aa.tape,aa.output,aa.size,aa.frame,aa.own,aa.ro⟩
 ·have bw:hW (fS (Array.replicate ops.size false)) T (eS [] H0)=λ_=>none:=by
   have: ∀(T:List dO) (H:J),hW (fS (Array.replicate ops.size false)) T H=λ_=>none:=by
    intro T
    induction T with
    |nil=>intro H;rfl
    |cons t T aT=>
     intro H
     funext l
     unfold hW;split
     ·rw[aT,HD];simp
     ·rw[aT]
   exact this T _
  rw[bw];exact jG.start ce.drew al.new
 ·rw[Gh λt _ _=>HD _]
 ·refine Nat.le_trans List.countP_le_length ?_;simp
end
end
end Go.gd
