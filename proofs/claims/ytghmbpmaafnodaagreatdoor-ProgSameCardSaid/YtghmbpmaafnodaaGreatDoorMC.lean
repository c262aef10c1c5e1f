/-
  Texts of one proof, laid together: Fv12 Fv13 Fv14 Fv15 Fv16.
-/
import Derived.Test.YtghmbpmaafnodaaGreatDoorMB
set_option linter.unusedVariables false
set_option linter.unusedSimpArgs false
namespace Go.f7
section
section
variable {P:Program}{ρ:Env}{H:J}{w:World}{R:ck}{a:Act}
def qS(ρ:Env)(w:World)(loc:Loc):dZ->Prop
 | .row ro esz els=>mH ρ w loc ro esz els
 | .map es=>LH ρ w loc es
 | .dead=>True
theorem qS.frame{cX:Env}{b5:World}{loc:Loc}{b:dZ}(h:qS ρ w loc b)(hle:ρ.le cX)(ay:b5.heap[loc.block]? =w.heap[loc.block]?):qS cX b5 loc b:=by
 cases b with
 |row ro esz els=>
  obtain⟨aU,c,t,h4,aJ,bz,bK⟩:=h;refine⟨aU,c,t,h4,by rw[ay];exact aJ,bz,λi e he=> ?_⟩;obtain⟨cE,cx⟩:=bK i e he;refine⟨cE,λj v bw=> ?_⟩;obtain⟨gj,x,e3,gk⟩:=cx j v bw;exact⟨gj,x,e3,gk.mono hle⟩
 |map es=>
  obtain⟨ents,clock,aU,aJ,bz⟩:=h;exact⟨ents,clock,by rw[ay];exact aU,aJ.mono hle,bz.mono hle⟩
 |dead=>trivial
theorem qS.lt{loc:Loc}{b:dZ}(h:qS ρ w loc b)(bb:b.uu=true):loc.block<w.heap.size:=by
 cases b with
 |row ro esz els=>obtain⟨_,c,t,h4,aJ,_⟩:=h;exact sr aJ
 |map es=>obtain⟨ents,clock,aU,_⟩:=h;exact sr aU
 |dead=>cases bb
theorem Rel.grow{cX:Env}{b5:World}(h:Rel ρ H w)(hle:ρ.le cX)(ay: ∀b,b<w.heap.size->b5.heap[b]? =w.heap[b]?):Rel cX H b5:=by
 refine⟨λl ro esz els e=> ?_,λl es e=> ?_,λl l' loc dB U aa dK aI bc=> ?_⟩
 ·obtain⟨loc,aU,aJ⟩:=h.row l ro esz els e;refine⟨loc,hle _ _ aU,?_⟩;have:=aJ;obtain⟨_,c,t,h4,bz,_⟩:=this;exact qS.frame (b:= .row ro esz els) aJ hle (ay _ (sr bz))
 ·obtain⟨loc,aU,aJ⟩:=h.map l es e;refine⟨loc,hle _ _ aU,?_⟩;have:=aJ;obtain⟨_,_,bz,_⟩:=this;exact qS.frame (b:= .map es) aJ hle (ay _ (sr bz))
 ·have zS: ∀k loc,H.live k->cX k=some loc->ρ k=some loc:=λk loc ah e=>by
   rcases ah with⟨ro,esz,els,ah⟩|⟨es,ah⟩
   ·obtain⟨dB,aU,_⟩:=h.row _ _ _ _ ah;rw[hle _ _ aU] at e;rw[aU];exact e
   ·obtain⟨dB,aU,_⟩:=h.map _ _ ah;rw[hle _ _ aU] at e;rw[aU];exact e
  exact h.apart l l' loc dB U aa dK (zS _ _ U.live aI) (zS _ _ aa bc)
theorem Rel.L5(h:Rel ρ H w){l:Nat}(ax:H.live l): ∃loc,ρ l=some loc/\loc.block<w.heap.size:=by
 rcases ax with⟨ro,esz,els,ah⟩|⟨es,ah⟩
 ·obtain⟨loc,aU,_,c,t,h4,bz,_⟩:=h.row _ _ _ _ ah;exact⟨loc,aU,sr bz⟩
 ·obtain⟨loc,aU,_,_,bz,_⟩:=h.map _ _ ah;exact⟨loc,aU,sr bz⟩
theorem abV{o:Oper}{l:Nat}{v:I}{b:dZ}(h:rX P o.op R l=some (v,b))(a7:hp ρ R a)(ak:ρ l=none)(w:World):
  ∃x b5 cX loc,(execOp a.eval o).run P w= .ok (.value x) b5/\cT cX v x/\ρ.le cX/\(∀k,k≠l->cX k=ρ k)/\cX l=some loc/\w.heap.size<=loc.block/\b.uu=true/\qS cX b5 loc b/\
   b5.os=w.os/\b5.tape=w.tape/\b5.output=w.output/\w.heap.size<=b5.heap.size/\ ∀k,k<w.heap.size->b5.heap[k]? =w.heap[k]? :=by
 unfold rX zI at h;split at h
 ·rename_i dr H' Ol;split at h
  ·rename_i aV;split at h
   ·rename_i fK ay;split at h
    ·rename_i j5;simp only[bD,dz] at h;obtain⟨rfl,rfl⟩:=h;obtain⟨x,b5,cX,aI,bc,dm⟩:=aa8 (Rel.empty ρ w l) ak Ol a7;have ja: ∀k,¬pW ρ ⟨.leaf,l⟩ k:=by
      rintro k ⟨l',loc,U,_,_⟩;have ut:(⟨.leaf,l⟩:J).get l'=none:=by unfold J.get;split<;>first|exact dd.DQ _|rfl
      rcases U with⟨_,_,h⟩|⟨_,h⟩<;>(rw[ut] at h;cases h)
     have zD:H'.rw l:=by
      cases fK with
      |row ro esz els=>cases ro with
       |true=>cases j5
       |false=>exact .inl ⟨_,_,ay⟩
      |map es=>exact .inr ⟨_,ay⟩
      |dead=>cases j5
     have HH: ∃loc,cX l=some loc/\qS cX b5 loc fK:=by
      cases fK with
      |row ro esz els=>exact dm.rel.row _ _ _ _ ay
      |map es=>exact dm.rel.map _ _ ay
      |dead=>cases j5
     obtain⟨loc,aU,aJ⟩:=HH;refine⟨x,b5,cX,loc,aI,bc,dm.le,λk ah=>dm.bo k ?_,aU,?_,j5,aJ,dm.os,dm.tape,dm.output,dm.size,λk ah=>dm.frame k ah (ja k)⟩
     ·rw[aV];show k<l\/_;omega
     ·exact(dm.own loc.block ⟨l,loc,zD,aU,rfl⟩).resolve_left (ja _)
    ·cases h
   ·cases h
  ·cases h
 ·cases h
structure jB(ρ0:Env)(H0:J)(w0:World)(N:Nat)(o7:Nat->Option dZ)(ρ:Env)(H:J)(w:World):Prop where
 EL:Rel ρ0 H0 w0
 le:ρ0.le ρ
 next:H0.next<=H.next
 bo: ∀l,l<H0.next\/N<=l->ρ l=ρ0 l
 rel:Rel ρ H w
 os:w.os=w0.os
 tape:w.tape=w0.tape
 output:w.output=w0.output
 size:w0.heap.size<=w.heap.size
 frame: ∀b,b<w0.heap.size-> ¬pW ρ0 H0 b->w.heap[b]? =w0.heap[b]?
 own: ∀b,pW ρ H b->pW ρ0 H0 b\/w0.heap.size<=b
 ro: ∀l esz els,H.get l=some (.row true esz els)->H0.get l=some (.row true esz els)
 fresh: ∀l,H.next<=l->l<N->o7 l=none->ρ l=none
 qV: ∀l b,o7 l=some b->H.next<=l/\l<N/\b.uu=true/\ ∃loc,ρ l=some loc/\qS ρ w loc b/\w0.heap.size<=loc.block/\ ¬pW ρ H loc.block
 sep: ∀l l' b fK loc dB,o7 l=some b->o7 l'=some fK->l≠l'->ρ l=some loc->ρ l'=some dB->loc.block≠dB.block
variable {ρ0:Env}{H0:J}{w0:World}{N:Nat}{o7:Nat->Option dZ}
theorem jB.start(h:Rel ρ0 H0 w0)(ak:X9 ρ0 H0.next N):jB ρ0 H0 w0 N (λ_=>none) ρ0 H0 w0:=
 ⟨h,ρ0.le_refl,bL _,λ_ _=>rfl,h,rfl,rfl,rfl,bL _,λ_ _ _=>rfl,λ_ h=> .inl h,λ_ _ _ h=>h,λl a b _=>ak l a b,λ_ _ h=>by simp at h,λ_ _ _ _ _ _ h=>by simp at h⟩
theorem jB.done(m:jB ρ0 H0 w0 N o7 ρ H w)(dX:H.next=N):Step ρ0 H0 w0 ρ H w:=
 ⟨m.le,m.next,λl ax=>m.bo l (by rw[<-dX];exact ax),m.rel,m.os,m.tape,m.output,m.size,m.frame,m.own,m.ro⟩
theorem jB.step{cX:Env}{H':J}{b5:World}(m:jB ρ0 H0 w0 N o7 ρ H w)(s:Step ρ H w cX H' b5)(dX:H'.next<=N)(bA: ∀l b,o7 l=some b->H'.next<=l):jB ρ0 H0 w0 N o7 cX H' b5 where
 EL:=m.EL
 le:=Env.le_trans m.le s.le
 next:=Nat.le_trans m.next s.next
 bo:=λl ax=>(s.bo l (ax.imp (λh=>Nat.lt_of_lt_of_le h m.next) (λh=>Nat.le_trans dX h))).trans (m.bo l ax)
 rel:=s.rel
 os:=s.os.trans m.os
 tape:=s.tape.trans m.tape
 output:=s.output.trans m.output
 size:=Nat.le_trans m.size s.size
 frame:=λb ay aV=>by
  rw[s.frame b (Nat.lt_of_lt_of_le ay m.size) (λbs=>(m.own b bs).elim aV (λhle=>Z)),m.frame b ay aV]
 own:=λb ay=>(s.own b ay).elim (λbs=>m.own b bs) (λhle=> .inr (Nat.le_trans m.size hle))
 ro:=λl esz els e=>m.ro l esz els (s.ro l esz els e)
 fresh:=λl a b c=>by rw[s.bo l (.inr a)];exact m.fresh l (Nat.le_trans s.next a) b c
 qV:=λl b h=>by
  obtain⟨aU,aJ,bz,loc,bK,cO,e2,h7⟩:=m.qV l b h;have eo:=cO.lt bz;refine⟨bA l b h,aJ,bz,loc,s.le _ _ bK,cO.frame s.le (s.frame _ eo h7),e2,λbs=> ?_⟩;rcases s.own _ bs with h|h
  ·exact h7 h
  ·omega
 sep:=λl l' b fK loc dB h bZ dK e cC=>by
  obtain⟨_,_,_,nA,bK,_⟩:=m.qV l b h;obtain⟨_,_,_,o5,eB,_⟩:=m.qV l' fK bZ;have U:=s.le _ _ bK;rw[e] at U;cases U;have aa:=s.le _ _ eB;rw[cC] at aa;cases aa;exact m.sep l l' b fK _ _ h bZ dK bK eB
theorem jB.early{cX:Env}{b5:World}{l:Nat}{b:dZ}{loc:Loc}(m:jB ρ0 H0 w0 N o7 ρ H w)(ax:H.next<=l)(dX:l<N)(bA:o7 l=none)
  (hle:ρ.le cX) (ah: ∀k,k≠l->cX k=ρ k) (zS:cX l=some loc) (wh:w.heap.size<=loc.block) (j5:b.uu=true) (ay:qS cX b5 loc b) (sb:b5.os=w.os) (alm:b5.tape=w.tape) (anV:b5.output=w.output)
  (Hn:w.heap.size<=b5.heap.size) (Lw: ∀k,k<w.heap.size->b5.heap[k]? =w.heap[k]?):jB ρ0 H0 w0 N (λk=>if k=l then some b else o7 k) cX H b5:=by
 have hold: ∀k dB,H.live k->cX k=some dB->ρ k=some dB:=λk dB ah e=>by
  obtain⟨nA,aU,_⟩:=m.rel.L5 ah;have:=hle _ _ aU;rw[e] at this;cases this;exact aU
 have BX: ∀k,pW cX H k->pW ρ H k:=by
  rintro k ⟨l',dB,U,aa,ae⟩;exact⟨l',dB,U,hold _ _ U.live aa,ae⟩
 have ais: ∀k,pW ρ H k->k<w.heap.size:=by
  rintro k ⟨l',dB,U,aa,ae⟩;obtain⟨nA,aU,aJ⟩:=m.rel.L5 U.live;rw[aa] at aU;cases aU;rw[<-ae];exact aJ
 refine⟨m.EL,Env.le_trans m.le hle,m.next,λk h=> ?_,m.rel.grow hle Lw,sb.trans m.os,alm.trans m.tape,anV.trans m.output,Nat.le_trans m.size Hn,λk U aa=> ?_,
  λk h=>m.own k (BX k h),m.ro,λk U aa ae=> ?_,λk fK h=> ?_,λk fA c_ cD nA o5 h bZ dK e cC=> ?_⟩
 ·rw[ah k (by have:=m.next;omega)];exact m.bo k h
 ·rw[Lw k (Nat.lt_of_lt_of_le U m.size)];exact m.frame k U aa
 ·by_cases iE:k=l
  ·subst iE;simp at ae
  ·simp only[iE,if_false] at ae;rw[ah k iE];exact m.fresh k U aa ae
 ·by_cases iE:k=l
  ·subst iE;simp only[if_true,bD] at h;subst h;exact⟨ax,dX,j5,loc,zS,ay,Nat.le_trans m.size wh,λbs=>by have:=ais _ (BX _ bs);omega⟩
  ·simp only[iE,if_false] at h;obtain⟨aU,aJ,bz,dB,bK,cO,e2,h7⟩:=m.qV k fK h;exact⟨aU,aJ,bz,dB,hle _ _ bK,cO.frame hle (Lw _ (cO.lt bz)),e2,λbs=>h7 (BX _ bs)⟩
 ·by_cases iE:k=l
  ·by_cases HJ:fA=l
   ·omega
   ·subst iE;simp only[HJ,if_false] at bZ;obtain⟨_,_,bz,dB,bK,cO,_,_⟩:=m.qV fA cD bZ;have:=hle _ _ bK;rw[cC] at this;cases this;rw[zS] at e;cases e;have:=cO.lt bz;omega
  ·by_cases HJ:fA=l
   ·subst HJ;simp only[iE,if_false] at h;obtain⟨_,_,bz,dB,bK,cO,_,_⟩:=m.qV k c_ h;have:=hle _ _ bK;rw[e] at this;cases this;rw[zS] at cC;cases cC;have:=cO.lt bz;omega
   ·simp only[iE,if_false] at h;simp only[HJ,if_false] at bZ;obtain⟨_,_,_,are,bK,_⟩:=m.qV k c_ h;obtain⟨_,_,_,arf,eB,_⟩:=m.qV fA cD bZ;have U:=hle _ _ bK;rw[e] at U;cases U;have aa:=hle _ _ eB;rw[cC] at aa;cases aa;exact m.sep k fA c_ cD _ _ h bZ dK bK eB
theorem jB.X2{b:dZ}(m:jB ρ0 H0 w0 N o7 ρ H w)(bA:o7 H.next=some b):jB ρ0 H0 w0 N (λk=>if k=H.next then none else o7 k) ρ (H.push b) w:=by
 obtain⟨_,dX,j5,loc,bK,cO,e2,h7⟩:=m.qV _ _ bA;have BJ: ∀k,(H.push b).rw k->k≠H.next->H.rw k:=λk h ah=>by simpa [J.rw,J.gy ah] using h
 have DF: ∀k,(H.push b).live k->k≠H.next->H.live k:=λk h ah=>by simpa [J.live,J.gy ah] using h
 have ja: ∀k dB,H.live k->ρ k=some dB->dB.block≠loc.block:=by
  intro k dB ah e heq;by_cases a7:H.rw k
  ·exact h7 ⟨k,dB,a7,e,heq⟩
  ·rcases ah with⟨ro,esz,els,ah⟩|⟨es,ah⟩
   ·cases ro with
    |false=>exact a7 (.inl ⟨_,_,ah⟩)
    |true=>
     have a6:=m.ro _ _ _ ah;obtain⟨ard,cE,cx⟩:=m.EL.L5 (.inl ⟨_,_,_,a6⟩);have:=m.le _ _ cE;rw[e] at this;cases this;omega
   ·exact a7 (.inr ⟨_,ah⟩)
 have BX: ∀k,pW ρ (H.push b) k->pW ρ H k\/k=loc.block:=by
  rintro k ⟨l',dB,U,aa,ae⟩;by_cases ax:l'=H.next
  ·subst ax;rw[bK] at aa;cases aa;exact .inr ae.symm
  ·exact .inl ⟨l',dB,BJ _ U ax,aa,ae⟩
 refine⟨m.EL,m.le,by have:=m.next;simp;omega,m.bo,⟨λl ro esz els h=> ?_,λl es h=> ?_,λl l' nA o5 h bZ dK e cC=> ?_⟩,m.os,m.tape,m.output,m.size,m.frame,
  λk h=> ?_,λl esz els h=>m.ro l esz els (J.TV (dZ.uu.ro j5) l esz els h),λl U aa ae=> ?_,λl fK h=> ?_,λl l' c_ cD nA o5 h bZ dK e cC=> ?_⟩
 ·by_cases ax:l=H.next
  ·subst ax;rw[J.ca] at h;simp only[bD] at h;subst h;exact⟨loc,bK,cO⟩
  ·rw[J.gy ax] at h;exact m.rel.row _ _ _ _ h
 ·by_cases ax:l=H.next
  ·subst ax;rw[J.ca] at h;simp only[bD] at h;subst h;exact⟨loc,bK,cO⟩
  ·rw[J.gy ax] at h;exact m.rel.map _ _ h
 ·by_cases ax:l=H.next
  ·by_cases dF:l'=H.next
   ·omega
   ·subst ax;rw[bK] at e;cases e;exact λheq=>ja l' o5 (DF _ bZ dF) cC heq.symm
  ·by_cases dF:l'=H.next
   ·subst dF;rw[bK] at cC;cases cC;exact ja l nA (BJ _ h ax).live e
   ·exact m.rel.apart l l' nA o5 (BJ _ h ax) (DF _ bZ dF) dK e cC
 ·rcases BX k h with h|rfl
  ·exact m.own k h
  ·exact .inr e2
 ·simp only[J.b6] at U;have ax:l≠H.next:=Z
  simp only[ax,if_false] at ae;exact m.fresh l Z aa ae
 ·by_cases ax:l=H.next
  ·simp[ax] at h
  ·simp only[ax,if_false] at h;obtain⟨cE,cx,eM,dB,eB,eN,gC,ng⟩:=m.qV l fK h;refine⟨by simp;omega,cx,eM,dB,eB,eN,gC,λbs=> ?_⟩;rcases BX _ bs with bZ|bZ
   ·exact ng bZ
   ·exact m.sep l H.next fK b dB loc h bA ax eB bK bZ
 ·by_cases ax:l=H.next
  ·simp[ax] at h
  ·by_cases dF:l'=H.next
   ·simp[dF] at bZ
   ·simp only[ax,if_false] at h;simp only[dF,if_false] at bZ;exact m.sep l l' c_ cD nA o5 h bZ dK e cC
end
end
section
def u3(R:ck)(c:Call):Option (Nat×List I):=
 match c.callee with
 | .value f=>match ew R f with
  |some (.func (.func g) first captured)=>match ow R c.args.toList with
   |some cm=>some (g,first++cm++captured)
   |none=>none
  |_=>none
 |_=>none
inductive K where
 |skip
 |pure (v:I)
 |read (v:I)
 |new (v:I) (b:dZ)
 |gX (v:I) (H:J)
def K.val:K->I
 | .skip=> .tuple []
 | .pure v=>v
 | .read v=>v
 | .new v _=>v
 | .gX v _=>v
def K.heap(H:J):K->J
 | .new _ b=>H.push b
 | .gX _ H'=>H'
 |_=>H
def K.ji:K->Bool
 | .new _ _=>true
 | .gX _ _=>true
 |_=>false
abbrev av:=Nat->List I->J->Option (I×J)
def L3:Option I->Option K
 |some v=>some (.pure v)
 |none=>none
def Ci:Option I->Option K
 |some v=>some (.read v)
 |none=>none
def Xv:Option (I×dZ)->Option K
 |some (v,b)=>some (.new v b)
 |none=>none
def Cw(H:J):Option (I×J)->Option K
 |some (v,H')=>if H.next<=H'.next then some (.gX v H') else none
 |none=>none
inductive aoo where
 |pure|read|both|new|write|call
def cls:Op->aoo
 | .load .. => .read
 | .lookup .. => .read
 | .alloc _=> .new
 | .box .. => .new
 | .buildSlice .. => .new
 | .makeMap .. => .new
 | .makeSlice .. => .new
 | .store .. => .write
 | .mapUpdate .. => .write
 | .insert .. => .write
 | .convert .. => .both
 | .call c=>match c.callee with
  | .builtin .append=> .write
  | .builtin _=> .both
  |_=> .call
 |_=> .pure
def step1(P:Program)(call:av)(o:Op)(R:ck)(H:J):Option K:=
 match cls o with
 | .pure=>L3 (qT P o R)
 | .read=>Ci (mI P o R H)
 | .both=>match qT P o R with
  |some v=>some (.pure v)
  |none=>Ci (mI P o R H)
 | .new=>Xv (rX P o R H.next)
 | .write=>Cw H (tO P o R H)
 | .call=>match o with
  | .call c=>match u3 R c with
   |some (g,cm)=>Cw H (call g cm H)
   |none=>none
  |_=>none
def zd(o:Op):Bool:=match cls o with
 | .new=>true
 | .write=>true
 | .call=>true
 |_=>false
theorem adl{P:Program}{call:av}{o:Op}{R:ck}{H:J}{k:K}(h:step1 P call o R H=some k)(ah:k.ji=true):zd o=true:=by
 unfold step1 at h;unfold zd;split at h
 ·unfold L3 at h;split at h
  ·simp only[bD] at h;subst h;cases ah
  ·cases h
 ·unfold Ci at h;split at h
  ·simp only[bD] at h;subst h;cases ah
  ·cases h
 ·split at h
  ·simp only[bD] at h;subst h;cases ah
  ·unfold Ci at h;split at h
   ·simp only[bD] at h;subst h;cases ah
   ·cases h
 ·rename_i aS;rw[aS]
 ·rename_i aS;rw[aS]
 ·rename_i aS;rw[aS]
def vZ(P:Program)(call:av)(o:Op)(R:ck)(H:J):K->Prop
 | .skip=>False
 | .pure v=>qT P o R=some v
 | .read v=>mI P o R H=some v
 | .new v b=>rX P o R H.next=some (v,b)
 | .gX v H'=>H.next<=H'.next/\(tO P o R H=some (v,H')\/ ∃c g cm,o= .call c/\u3 R c=some (g,cm)/\call g cm H=some (v,H'))
theorem agp{P:Program}{call:av}{o:Op}{R:ck}{H:J}{k:K}(h:step1 P call o R H=some k):vZ P call o R H k:=by
 unfold step1 at h;split at h
 ·unfold L3 at h;split at h
  ·rename_i v bw;simp only[bD] at h;subst h;exact bw
  ·cases h
 ·unfold Ci at h;split at h
  ·rename_i v bw;simp only[bD] at h;subst h;exact bw
  ·cases h
 ·split at h
  ·rename_i v bw;simp only[bD] at h;subst h;exact bw
  ·unfold Ci at h;split at h
   ·rename_i v bw;simp only[bD] at h;subst h;exact bw
   ·cases h
 ·unfold Xv at h;split at h
  ·rename_i v b bw;simp only[bD] at h;subst h;exact bw
  ·cases h
 ·unfold Cw at h;split at h
  ·rename_i v H' bw;split at h
   ·rename_i aV;simp only[bD] at h;subst h;exact⟨aV,.inl bw⟩
   ·cases h
  ·cases h
 ·split at h
  ·rename_i c _;split at h
   ·rename_i g cm aS;unfold Cw at h;split at h
    ·rename_i v H' bw;split at h
     ·rename_i aV;simp only[bD] at h;subst h;exact⟨aV,.inr ⟨c,g,cm,rfl,aS,bw⟩⟩
     ·cases h
    ·cases h
   ·cases h
  ·cases h
section congr
variable {P:Program}{R cj:ck}
theorem Be: ∀{xs:List Operand},(∀x∈xs,ew R x=ew cj x)->ow R xs=ow cj xs
 |[],_=>rfl
 |x::xs,h=>by
  simp only[ow,h x (by simp),Be (xs:=xs) λy cR=>h y (by simp[cR])]
theorem JD: ∀{xs:List (Nat×Operand)},(∀x∈xs.map (·.2),ew R x=ew cj x)->qM R xs=qM cj xs
 |[],_=>rfl
 |(i,x)::xs,h=>by
  simp only[qM,h x (by simp),JD (xs:=xs) λy cR=>h y (by simp at cR ⊢;exact .inr cR)]
theorem JO{x:Option Operand}(h: ∀y,x=some y->ew R y=ew cj y):sM R x=sM cj x:=by
 cases x with
 |none=>rfl
 |some x=>simp only[sM,h x rfl]
theorem aa_{o:Op}(h: ∀x∈o.operands,ew R x=ew cj x):qT P o R=qT P o cj:=by
 cases o<;>simp only[qT,Op.operands] at h ⊢ <;>first
  |rfl
  |(simp at h;simp[h];done)
  |skip
 ·rename_i t et;rw[JD λx af=>h x (by simpa using af)]
 ·rename_i fn f c;rw[Be λx af=>h x (by simp at af ⊢;exact .inl af),Be (xs:=c.toList) λx af=>h x (by simp at af ⊢;exact .inr af)]
 ·rename_i t x lo be rk;rw[h x (by simp),JO (x:=lo) λy cR=>h y (by simp[cR]),JO (x:=be) λy cR=>h y (by simp[cR]),JO (x:=rk) λy cR=>h y (by simp[cR])]
 ·rename_i c;cases aS:c.callee with
  |builtin b=>
   simp only[Call.operands,aS] at h ⊢;rw[Be λx af=>h x (by simpa using af)]
  |value f=>rfl
  |invoke r m=>rfl
theorem Po{o:Op}{H:J}(h: ∀x∈o.operands,ew R x=ew cj x):mI P o R H=mI P o cj H:=by
 cases o<;>simp only[mI,Op.operands] at h ⊢ <;>first
  |rfl
  |(simp at h;simp[h];done)
  |skip
 ·rename_i c;cases aS:c.callee with
  |builtin b=>
   simp only[Call.operands,aS] at h ⊢;rw[Be λx af=>h x (by simpa using af)]
  |value f=>rfl
  |invoke r m=>rfl
theorem aa7{o:Op}{H:J}(h: ∀x∈o.operands,ew R x=ew cj x):zA P o R H=zA P o cj H:=by
 cases o<;>simp only[zA,Op.operands] at h ⊢ <;>first
  |rfl
  |(simp at h;simp[h];done)
  |skip
 ·rename_i t n et;rw[JD λx af=>h x (by simpa using af)]
 ·rename_i t r;cases r<;>rfl
theorem abU{o:Op}{l:Nat}(h: ∀x∈o.operands,ew R x=ew cj x):rX P o R l=rX P o cj l:=by
 unfold rX;rw[aa7 h]
theorem aaL{o:Op}{H:J}(h: ∀x∈o.operands,ew R x=ew cj x):tO P o R H=tO P o cj H:=by
 cases o<;>simp only[tO,Op.operands] at h ⊢ <;>first
  |rfl
  |(simp at h;simp[h];done)
  |skip
 ·rename_i c;cases aS:c.callee with
  |builtin b=>
   simp only[Call.operands,aS] at h ⊢;cases b1:c.args.toList with
   |nil=>cases b<;>rfl
   |cons s r=>
    cases r with
    |nil=>cases b<;>rfl
    |cons x r=>
     cases r with
     |nil=>
      have U:s∈c.args.toList:=by simp[b1]
      have aa:x∈c.args.toList:=by simp[b1]
      cases b<;>first
       |rfl
       |(simp only;rw[h s (by simpa using U),h x (by simpa using aa)])
     |cons y r=>cases b<;>rfl
  |value f=>rfl
  |invoke r m=>rfl
theorem aat{c:Call}(h: ∀x∈c.operands,ew R x=ew cj x):u3 R c=u3 cj c:=by
 unfold u3;cases aS:c.callee with
 |builtin b=>rfl
 |value f=>
  simp only[Call.operands,aS] at h ⊢;rw[h f (by simp),Be λx af=>h x (by simp at af ⊢;exact .inr af)]
 |invoke r m=>rfl
theorem vZ.congr{call:av}{o:Op}{H:J}{k:K}(h: ∀x∈o.operands,ew R x=ew cj x)(ah:vZ P call o R H k):vZ P call o cj H k:=by
 cases k with
 |skip=>exact ah
 |pure v=>exact(aa_ h).symm.trans ah
 |read v=>exact(Po h).symm.trans ah
 |new v b=>exact(abU h).symm.trans ah
 |gX v H'=>
  obtain⟨U,aa|⟨c,g,cm,rfl,aa,ae⟩⟩:=ah
  ·exact⟨U,.inl ((aaL h).symm.trans aa)⟩
  ·exact⟨U,.inr ⟨c,g,cm,rfl,(aat h).symm.trans aa,ae⟩⟩
end congr
def zN(P:Program)(m:Sem Next)(w:World)(next:Value->World->Prop):Prop:=
 match m.run P w with
 | .ok (.value x) b5=>next x b5
 | .ok (.enter f args) b5=>Calls P f args b5 λ
  | .returned x,ZN=>next x ZN
  |_,_=>False
 |_=>False
def wP(E:Env)(P:Program)(g:Nat)(args:List I)(H:J)(v:I)(H':J):Prop:=
 ∀(ρ:Env) (w:World) (xs:List Value),Rel ρ H w->ov E ρ H.next H'.next->dG ρ args xs->H.next<=H'.next->
  ∀next:Value->World->Prop,(∀x b5 cX,cT cX v x->Step ρ H w cX H' b5->next x b5)->zN P (callFunc g xs.toArray) w next
def rB(E:Env)(P:Program)(call:av):Prop:= ∀g args H v H',call g args H=some (v,H')->wP E P g args H v H'
section
variable {E:Env}{P:Program}{call:av}{ρ:Env}{H H':J}{w:World}{R:ck}{a:Act}{o:Oper}{v:I}{wA:Act->World->Prop}{Q:Exit->Act->World->Prop}
theorem TP(h:qT P o.op R=some v)(a7:hp ρ R a)(ah: ∀x,cT ρ v x->wA (a.put o.dst x) w):o.wp P a w wA Q:=by
 obtain⟨x,aI,bc⟩:=aba h a7 w;unfold Oper.wp;rw[aI];exact ah x bc
theorem TT(ce:Rel ρ H w)(h:mI P o.op R H=some v)(a7:hp ρ R a)(ah: ∀x,cT ρ v x->wA (a.put o.dst x) w):o.wp P a w wA Q:=by
 obtain⟨x,aI,bc⟩:=abb ce h a7;unfold Oper.wp;rw[aI];exact ah x bc
theorem VF{l:Nat}{b:dZ}(h:rX P o.op R l=some (v,b))(a7:hp ρ R a)(ak:ρ l=none)
  (ah: ∀x b5 cX loc,cT cX v x->ρ.le cX->(∀k,k≠l->cX k=ρ k)->cX l=some loc->w.heap.size<=loc.block->b.uu=true->qS cX b5 loc b->
   b5.os=w.os->b5.tape=w.tape->b5.output=w.output->w.heap.size<=b5.heap.size->(∀k,k<w.heap.size->b5.heap[k]? =w.heap[k]?)->wA (a.put o.dst x) b5):o.wp P a w wA Q:=by
 obtain⟨x,b5,cX,loc,aI,bc,dm,eS,gT,yw,FZ,Og,tm,aoA,MV,MW,aoB⟩:=abV h a7 ak w;unfold Oper.wp;rw[aI];exact ah x b5 cX loc bc dm eS gT yw FZ Og tm aoA MV MW aoB
theorem Ue(o1:rB E P call)(ce:Rel ρ H w)(ak:ov E ρ H.next H'.next)(h:vZ P call o.op R H (.gX v H'))(a7:hp ρ R a)
  (ah: ∀x b5 cX,cT cX v x->Step ρ H w cX H' b5->wA (a.put o.dst x) b5):o.wp P a w wA Q:=by
 obtain⟨aV,U|⟨c,g,cm,aS,aa,ae⟩⟩:=h
 ·obtain⟨n,x,b5,cX,aI,bc,dm,eS⟩:=aaM ce U (ak.new _ (bL _)) a7;unfold Oper.wp;rw[aI];unfold W0 at bc;split at bc
  ·subst bc;exact ah _ b5 cX dm eS
  ·subst bc;exact ah _ b5 cX dm eS
  ·exact bc.elim
 ·unfold u3 at aa;split at aa
  ·rename_i f anp;split at aa
   ·rename_i g' first captured we
    split at aa
    ·rename_i FR tf;simp only[bD,dz] at aa;obtain⟨rfl,rfl⟩:=aa;have al:=gO a7 we;have aB:=Bf a7 tf;generalize he:a.eval f=z at al;cases al with|func _ _ _ nc c' cE cx=>
     have uG:=o1 _ _ _ _ _ ae ρ w _ ce ak ((cE.append aB).append cx) aV (λx b5=>wA (a.put o.dst x) b5) (λx b5 cX=>ah x b5 cX);have oD:(execOp a.eval o).run P w=(callFunc g' ((nc++c.args.toList.map a.eval++c').toArray)).run P w:=by
      unfold execOp;rw[aS];simp only[resolve,anp,he,Deferred.ofValue,pure_bind,invoke]
      congr 2
      rw[map_toArray a.eval];simp
     unfold Oper.wp;rw[oD];unfold zN at uG;split at uG
     ·rename_i e;rw[e];exact uG
     ·rename_i e;rw[e];refine Calls.mono uG λpw ZN bW=> ?_
      cases pw<;>first|exact bW|exact bW.elim
     ·exact uG.elim
    ·cases aa
   ·cases aa
  ·cases aa
end
end
section
def sy(acc:List Nat):List Edge->Nat
 |[]=>0
 |e::es=>if Region.binds .any e then 2^e.on|||(acc[e.on]?.getD 0|||sy acc es) else sy acc es
def u6:List Oper->List Nat->List Nat
 |[],acc=>acc
 |o::os,acc=>u6 os (acc++[sy acc o.after.toList])
def gV(ops:Array Oper):List Nat:=u6 ops.toList []
def gn(ms:List Nat)(j i:Nat):Bool:=(ms[i]?.getD 0).testBit j
theorem Pf: ∀(os pre:List Oper) (acc:List Nat),acc.length=pre.length->(∀i o,pre[i]? =some o->acc[i]? =some (sy (acc.take i) o.after.toList))->
  ∀i o,(pre++os)[i]? =some o->(u6 os acc)[i]? =some (sy ((u6 os acc).take i) o.after.toList)
 |[],pre,acc,ax,h,i,o,bs=>by simpa [u6] using h i o (by simpa using bs)
 |p::os,pre,acc,ax,h,i,o,bs=>by
  unfold u6;refine Pf os (pre++[p]) _ (by simp[ax]) (λj q bP=> ?_) i o (by simpa using bs);rcases Nat.lt_or_ge j pre.length with eo|wh
  ·rw[List.getElem?_append_left eo] at bP;rw[List.getElem?_append_left Z,h j q bP,List.take_append_of_le_length Z]
  ·rw[List.getElem?_append_right wh] at bP;have:j=pre.length:=by
    have:=(List.getElem?_eq_some_iff.1 bP).1;simp at this;omega
   subst this;simp at bP;subst bP;rw[List.getElem?_append_right Z,<-ax];simp
theorem Qn{ops:Array Oper}{i:Nat}{o:Oper}(h:ops[i]? =some o):(gV ops)[i]? =some (sy ((gV ops).take i) o.after.toList):=
 Pf ops.toList [] [] rfl (by simp) i o (by simpa using h)
theorem Jx{acc:List Nat}{e:Edge}: ∀{es:List Edge},e∈es->Region.binds .any e=true->(sy acc es).testBit e.on=true
 |[],h,_=>by simp at h
 |d::es,h,ay=>by
  unfold sy;rcases List.mem_cons.1 h with rfl|h
  ·rw[if_pos ay];simp[Nat.testBit_two_pow_self]
  ·split
   ·simp[Jx h ay]
   ·exact Jx h ay
theorem JF{acc:List Nat}{j:Nat}: ∀{es:List Edge},(sy acc es).testBit j=true-> ∃e∈es,Region.binds .any e=true/\(j=e.on\/(acc[e.on]?.getD 0).testBit j=true)
 |[],h=>by simp[sy] at h
 |d::es,h=>by
  unfold sy at h;split at h
  ·rename_i ay;simp only[Nat.testBit_or,Bool.or_eq_true] at h;rcases h with h|h|h
   ·refine⟨d,by simp,ay,.inl ?_⟩;rw[Nat.testBit_two_pow] at h;simpa using(of_decide_eq_true h).symm
   ·exact⟨d,by simp,ay,.inr h⟩
   ·obtain⟨e,U,aa,ae⟩:=JF h;exact⟨e,by simp[U],aa,ae⟩
  ·obtain⟨e,U,aa,ae⟩:=JF h;exact⟨e,by simp[U],aa,ae⟩
def Ca(L:Nat->Bool)(o:Oper):Prop:= ∀e∈o.after,Region.binds .any e=true->L e.on=true
def D4(ops:Array Oper)(L:Nat->Bool):Prop:= ∀i o,ops[i]? =some o->L i=true->Ca L o
theorem tx{ops:Array Oper}{L:Nat->Bool}(aS:D4 ops L): ∀(i:Nat) (o:Oper),ops[i]? =some o->Ca L o-> ∀j,gn (gV ops) j i=true->L j=true:=by
 intro i
 induction i using Nat.strongRecOn with
 |_ i aT=>
  intro o bs hw j bP;unfold gn at bP;rw[Qn bs] at bP;simp only[Option.getD_some] at bP;obtain⟨e,U,aa,ae⟩:=JF bP;have gA:=hw e (by simpa using U) aa;rcases ae with rfl|ae
  ·exact gA
  ·rcases Nat.lt_or_ge e.on i with eo|wh
   ·rw[List.getElem?_take_of_lt eo] at ae;cases Fo:ops[e.on]? with
    |none=>
     cases hm:(gV ops)[e.on]? with
     |none=>rw[hm] at ae;simp at ae
     |some m=>
      exfalso;have hlen: ∀(os:List Oper) (acc:List Nat),(u6 os acc).length=acc.length+os.length:=by
       intro os
       induction os with
       |nil=>intro acc;simp[u6]
       |cons o os aT=>intro acc;simp[u6,aT];omega
      have al:=(List.getElem?_eq_some_iff.1 hm).1;have aB:(gV ops).length=ops.size:=by unfold gV;rw[hlen];simp
      have aG:ops.size<=e.on:=by simpa using Fo
      omega
    |some Dl=>exact aT e.on eo Dl Fo (aS _ _ Fo gA) j ae
   ·rw[List.getElem?_eq_none (by simp;omega)] at ae;simp at ae
theorem agG{ops:Array Oper}{i:Nat}{o:Oper}(bs:ops[i]? =some o){e:Edge}(he:e∈o.after)(ay:Region.binds .any e=true):gn (gV ops) e.on i=true:=by
 unfold gn;rw[Qn bs];exact Jx (by simpa using he) ay
def tD(ops:Array Oper)(R:ck)(o:Oper):Bool:=
 match o.guard with
 |none=>true
 |some (j,want)=>match ops[j]? with
  |some q=>(match q.dst with
   |some d=>(match R.get d with
    | .bool b=>b==want
    |_=>false)
   |none=>false)
  |none=>false
theorem OW{ρ:Env}{ops:Array Oper}{R:ck}{a:Act}(a7:hp ρ R a)(o:Oper):Region.wanted o (yielded ops a.tmps)=tD ops R o:=by
 unfold Region.wanted tD;cases aX:o.guard with
 |none=>rfl
 |some p=>
  obtain⟨j,want⟩:=p;simp only
  unfold yielded;cases bP:ops[j]? with
  |none=>simp
  |some q=>
   cases bb:q.dst with
   |none=>simp[bb]
   |some d=>
    simp only[Option.bind_some,bb];have U:=a7.get d;rw[Array.getD_eq_getD_getElem?] at U;cases bC:a.tmps[d]? with
    |none=>
     rw[bC] at U;simp only[Option.getD_none] at U;generalize bw:R.get d=v at U;cases v<;>first|rfl|(exfalso;cases U)
    |some x=>
     rw[bC] at U;simp only[Option.getD_some] at U;generalize bw:R.get d=v at U;cases U<;>first|rfl|(simp;done)
theorem aav{ops:Array Oper}{R cj:ck}{o:Oper}(h: ∀d∈o.looksAt ops,R.get d=cj.get d):tD ops R o=tD ops cj o:=by
 unfold tD;cases aX:o.guard with
 |none=>rfl
 |some p=>
  obtain⟨j,want⟩:=p;simp only
  cases bP:ops[j]? with
  |none=>rfl
  |some q=>
   cases bb:q.dst with
   |none=>simp[bb]
   |some d=>
    simp only[bb];rw[h d (by simp[Oper.looksAt,aX,bP,bb])]
theorem aai{ops:Array Oper}{R cj:ck}{o:Oper}(h: ∀d∈o.looksAt ops,R.get d=cj.get d): ∀x∈o.op.operands,ew R x=ew cj x:=by
 intro x af;cases x with
 |tmp t=>
  simp only[ew];rw[h t ?_];unfold Oper.looksAt;refine List.mem_append.2 (.inl ?_);rw[List.mem_filterMap];exact⟨.tmp t,by simpa using af,rfl⟩
 |const v=>rfl
 |global g=>rfl
 |func f=>rfl
structure dM where
 i:Nat
 o:Oper
 R:ck
 k:K
def nx(P:Program)(call:av)(ops:Array Oper)(o:Oper)(R:ck)(H:J):Option K:=
 match tD ops R o with
 |true=>step1 P call o.op R H
 |false=>some .skip
def canRun(P:Program)(call:av)(ops:Array Oper):List Nat->ck->J->Option (List dM×ck×J)
 |[],R,H=>some ([],R,H)
 |i::is,R,H=>match ops[i]? with
  |none=>none
  |some o=>match nx P call ops o R H with
   |none=>none
   |some k=>match R.put o.dst k.val with
    |none=>none
    |some cj=>match canRun P call ops is cj (k.heap H) with
     |none=>none
     |some (T,fb,dU)=>some (⟨i,o,R,k⟩::T,fb,dU)
def eO:List dM->J->J
 |[],H=>H
 |t::ts,H=>eO ts (t.k.heap H)
theorem sq(A B:List dM)(H:J):eO (A++B) H=eO B (eO A H):=by
 induction A generalizing H with
 |nil=>rfl
 |cons t A aT=>simp[eO,aT]
def kI(L:Nat->Bool)(d:Nat):List dM->I->I
 |[],v=>v
 |t::ts,v=>kI L d ts (if L t.i=true/\t.o.dst=some d then t.k.val else v)
theorem JJ(L:Nat->Bool)(d:Nat)(A B:List dM)(v:I):kI L d (A++B) v=kI L d B (kI L d A v):=by
 induction A generalizing v with
 |nil=>rfl
 |cons t A aT=>simp[kI,aT]
theorem DD{L L':Nat->Bool}{d:Nat}: ∀{A:List dM} {v:I},(∀t∈A,t.o.dst=some d->L t.i=L' t.i)->kI L d A v=kI L' d A v
 |[],_,_=>rfl
 |t::A,v,h=>by
  simp only[kI];have:(L t.i=true/\t.o.dst=some d)↔(L' t.i=true/\t.o.dst=some d):=by
   constructor
   ·rintro⟨U,aa⟩;exact⟨by rw[<-h t (by simp) aa];exact U,aa⟩
   ·rintro⟨U,aa⟩;exact⟨by rw[h t (by simp) aa];exact U,aa⟩
  simp only[this];exact DD λu hu=>h u (by simp[hu])
theorem Gp{L:Nat->Bool}{d:Nat}: ∀{A:List dM} {v:I},(∀t∈A,t.o.dst=some d->L t.i=false)->kI L d A v=v
 |[],_,_=>rfl
 |t::A,v,h=>by
  simp only[kI];rw[if_neg (by rintro⟨U,aa⟩;rw[h t (by simp) aa] at U;cases U)];exact Gp λu hu=>h u (by simp[hu])
theorem tv{P:Program}{call:av}{ops:Array Oper}: ∀{is:List Nat} {R:ck} {H:J} {T:List dM} {fb:ck} {dU:J},canRun P call ops is R H=some (T,fb,dU)->
  T.map (·.i)=is/\dU=eO T H/\fb.size=R.size/\ ∀d,fb.get d=kI (λ_=>true) d T (R.get d)
 |[],R,H,T,fb,dU,h=>by
  simp only[canRun,bD,dz] at h;obtain⟨rfl,rfl,rfl⟩:=h;exact⟨rfl,rfl,rfl,λ_=>rfl⟩
 |i::is,R,H,T,fb,dU,h=>by
  simp only[canRun] at h;split at h
  ·cases h
  ·rename_i o bs;split at h
   ·cases h
   ·rename_i k ah;split at h
    ·cases h
    ·rename_i cj ln;split at h
     ·cases h
     ·rename_i AW Yb Ya bZ;simp only[bD,dz] at h;obtain⟨rfl,rfl,rfl⟩:=h;obtain⟨aI,bc,dm,eS⟩:=tv bZ;refine⟨by simp[aI],bc,by rw[dm,ck.BK ln],λd=> ?_⟩;rw[eS d,ck.DV ln d];simp[kI]
theorem Kl{P:Program}{call:av}{ops:Array Oper}: ∀{A:List dM} {is:List Nat} {R:ck} {H:J} {t:dM} {B:List dM} {fb:ck} {dU:J},canRun P call ops is R H=some (A++t::B,fb,dU)->
  ops[t.i]? =some t.o/\(∀d,t.R.get d=kI (λ_=>true) d A (R.get d))/\nx P call ops t.o t.R (eO A H)=some t.k/\(∀d,t.o.dst=some d->d<R.size)
 |A,[],R,H,t,B,fb,dU,h=>by
  simp only[canRun,bD,dz] at h;have:=h.1;simp at this
 |A,i::is,R,H,t,B,fb,dU,h=>by
  simp only[canRun] at h;split at h
  ·cases h
  ·rename_i o bs;split at h
   ·cases h
   ·rename_i k ah;split at h
    ·cases h
    ·rename_i cj ln;split at h
     ·cases h
     ·rename_i AW Yb Ya bZ;simp only[bD,dz] at h;obtain⟨U,rfl,rfl⟩:=h;cases A with
      |nil=>
       simp only[List.nil_append,List.cons.injEq] at U;obtain⟨rfl,rfl⟩:=U;refine⟨bs,λ_=>rfl,ah,λd bb=> ?_⟩;simp only at bb;rw[bb] at ln;exact ck.VK ln
      |cons u A=>
       simp only[List.cons_append,List.cons.injEq] at U;obtain⟨rfl,rfl⟩:=U;obtain⟨aI,bc,dm,eS⟩:=Kl bZ;refine⟨aI,λd=> ?_,dm,λd bb=>by rw[<-ck.BK ln];exact eS d bb⟩;rw[bc d,ck.DV ln d];simp[kI]
def iA:J->List dM->Prop
 |_,[]=>True
 |H,t::ts=>H.next<=(t.k.heap H).next/\iA (t.k.heap H) ts
theorem iA.append: ∀{A B:List dM} {H:J},iA H (A++B)->iA H A/\iA (eO A H) B
 |[],_,_,h=>⟨trivial,h⟩
 |_::A,_,_,h=>by
  obtain⟨U,aa⟩:=h;obtain⟨ae,al⟩:=iA.append (A:=A) aa;exact⟨⟨U,ae⟩,al⟩
theorem iA.le: ∀{A:List dM} {H:J},iA H A->H.next<=(eO A H).next
 |[],_,_=>bL _
 |_::A,_,h=>Nat.le_trans h.1 (iA.le (A:=A) h.2)
theorem BG{P:Program}{call:av}{ops:Array Oper}{o:Oper}{R:ck}{H:J}{k:K}(h:nx P call ops o R H=some k):
  (tD ops R o=true/\vZ P call o.op R H k)\/(tD ops R o=false/\k= .skip):=by
 unfold nx at h;split at h
 ·rename_i hw;exact .inl ⟨hw,agp h⟩
 ·rename_i hw;simp only[bD] at h;exact .inr ⟨hw,h.symm⟩
theorem Qj{P:Program}{call:av}{ops:Array Oper}{o:Oper}{R:ck}{H:J}{k:K}(h:nx P call ops o R H=some k)(ah:k.ji=true):zd o.op=true:=by
 unfold nx at h;split at h
 ·exact adl h ah
 ·simp only[bD] at h;subst h;cases ah
theorem Ka{P:Program}{call:av}{ops:Array Oper}{o:Oper}{R:ck}{H:J}{k:K}(h:nx P call ops o R H=some k):H.next<=(k.heap H).next:=by
 rcases BG h with⟨_,h⟩|⟨_,rfl⟩
 ·cases k with
  |gX v H'=>exact h.1
  |new v b=>simp[K.heap]
  |_=>exact bL _
 ·exact bL _
theorem DA{P:Program}{call:av}{ops:Array Oper}: ∀{is:List Nat} {R:ck} {H:J} {T:List dM} {fb:ck} {dU:J},canRun P call ops is R H=some (T,fb,dU)->iA H T
 |[],R,H,T,fb,dU,h=>by
  simp only[canRun,bD,dz] at h;obtain⟨rfl,rfl,rfl⟩:=h;trivial
 |i::is,R,H,T,fb,dU,h=>by
  simp only[canRun] at h;split at h
  ·cases h
  ·rename_i o bs;split at h
   ·cases h
   ·rename_i k ah;split at h
    ·cases h
    ·split at h
     ·cases h
     ·rename_i AW Yb Ya bZ;simp only[bD,dz] at h;obtain⟨rfl,rfl,rfl⟩:=h;exact⟨Ka ah,DA bZ⟩
def hJ(L:Nat->Bool):List dM->J->Nat->Option dZ
 |[],_,_=>none
 |t::ts,H,l=>match t.k with
  | .new _ b=>if l=H.next then(if L t.i=true then some b else none) else hJ L ts (H.push b) l
  |k=>hJ L ts (k.heap H) l
theorem DL{L:Nat->Bool}: ∀{T:List dM} {H:J} {l:Nat} {b:dZ},iA H T->hJ L T H l=some b->H.next<=l
 |[],_,_,_,_,h=>by cases h
 |t::ts,H,l,b,hm,h=>by
  unfold hJ at h;split at h
  ·rename_i v fK ah;split at h
   ·omega
   ·have:=DL (by have:=hm.2;rwa[ah] at this) h;simp at this;omega
  ·have U:=hm.1;have:=DL hm.2 h;omega
theorem Du{L L':Nat->Bool}: ∀{T:List dM} {H:J},(∀t∈T,∀v b,t.k= .new v b->L t.i=L' t.i)->hJ L T H=hJ L' T H
 |[],_,_=>rfl
 |t::ts,H,h=>by
  funext l
  unfold hJ;split
  ·rename_i v b ah;rw[h t (by simp) v b ah,Du (T:=ts) (λu hu=>h u (by simp[hu]))]
  ·rw[Du (T:=ts) (λu hu=>h u (by simp[hu]))]
theorem DB{L:Nat->Bool}{t:dM}{ts:List dM}{H:J}(h: ∀v b,t.k≠ .new v b):hJ L (t::ts) H=hJ L ts (t.k.heap H):=by
 funext l
 show(match t.k with
  | .new _ b=>if l=H.next then(if L t.i=true then some b else none) else hJ L ts (H.push b) l
  |k=>hJ L ts (k.heap H) l)=_
 split
 ·rename_i v b ah;exact absurd ah (h v b)
 ·rfl
theorem Qq{L L':Nat->Bool}{t:dM}{v:I}{b:dZ}(bC:t.k= .new v b)(gA:L t.i=false)(qj:L' t.i=true): ∀{C D:List dM} {H:J},iA H (C++t::D)->
  (∀u∈C,L u.i=L' u.i)->(∀u∈D,L u.i=L' u.i)->
  hJ L' (C++t::D) H=(λk=>if k=(eO C H).next then some b else hJ L (C++t::D) H k)/\hJ L (C++t::D) H (eO C H).next=none
 |[],D,H,hm,tn,Ok=>by
  constructor
  ·funext k
   simp only[List.nil_append,eO,hJ,bC,gA,qj,if_true,Bool.false_eq_true,if_false];rw[Du (T:=D) λu hu _ _ _=>Ok u hu];split<;>rfl
  ·simp[hJ,bC,gA,eO]
 |c::C,D,H,hm,tn,Ok=>by
  obtain⟨U,aa⟩:=hm;obtain⟨aI,bc⟩:=Qq bC gA qj (C:=C) (D:=D) aa (λu hu=>tn u (by simp[hu])) Ok;by_cases aS: ∃dr fK,c.k= .new dr fK
  ·obtain⟨dr,fK,aS⟩:=aS;have hle:(c.k.heap H).next<=(eO C (c.k.heap H)).next:=(iA.append aa).1.le
   rw[aS] at aI bc hle;simp only[K.heap,J.b6] at hle aI bc;constructor
   ·funext k
    simp only[List.cons_append,hJ,aS,eO,K.heap];rw[<-tn c (by simp),aI];by_cases ah:k=H.next
    ·subst ah;simp only[if_true];by_cases af:H.next=(eO C (H.push fK)).next
     ·omega
     ·simp only[af,if_false]
    ·simp only[ah,if_false];by_cases af:k=(eO C (H.push fK)).next
     ·simp only[af,if_true]
     ·simp only[af,if_false]
   ·simp only[List.cons_append,hJ,aS,eO,K.heap];rw[if_neg Z];exact bc
  ·have aV: ∀v b,c.k≠ .new v b:=λv b h=>aS ⟨v,b,h⟩
   rw[List.cons_append,DB aV,DB aV,eO];exact⟨aI,bc⟩
end
section
mutual
def I.beq:I->I->Bool
 | .bool a,.bool b=>a==b
 | .int k n,.int fA m=>decide (k=fA)&&decide (n=m)
 | .str s,.str t=>decide (s=t)
 | .ptr l i c,.ptr l' qy c'=>decide (l=l')&&decide (i=qy)&&decide (c=c')
 | .nilPtr,.nilPtr=>true
 | .aM l i n e c,.aM l' qy cg cC c'=>decide (l=l')&&decide (i=qy)&&decide (n=cg)&&decide (e=cC)&&decide (c=c')
 | .an,.an=>true
 | .map l,.map l'=>decide (l=l')
 | .oW,.oW=>true
 | .nilFunc,.nilFunc=>true
 | .iface t v,.iface wE dr=>decide (t=wE)&&I.beq v dr
 | .nilIface,.nilIface=>true
 | .agg xs,.agg dQ=>jA.beq xs dQ
 | .tuple xs,.tuple dQ=>jA.beq xs dQ
 |_,_=>false
def jA.beq:List I->List I->Bool
  |[],[]=>true
  |x::xs,y::dQ=>I.beq x y&&jA.beq xs dQ
  |_,_=>false
 end
mutual
theorem I.beq_eq: ∀{a b:I},I.beq a b=true->a=b:=by
 intro a b h;cases a<;>cases b<;>simp only[I.beq] at h<;>first
  |(cases h;done)
  |rfl
  |(simp at h;simp[h];done)
  |skip
 ·simp only[Bool.and_eq_true,decide_eq_true_eq] at h;obtain⟨rfl,h⟩:=h;rw[I.beq_eq h]
 ·rw[jA.beq_eq h]
 ·rw[jA.beq_eq h]
theorem jA.beq_eq: ∀{a b:List I},jA.beq a b=true->a=b:=by
  intro a b h;cases a with
  |nil=>cases b with
   |nil=>rfl
   |cons y dQ=>simp[jA.beq] at h
  |cons x xs=>cases b with
   |nil=>simp[jA.beq] at h
   |cons y dQ=>
    simp only[jA.beq,Bool.and_eq_true] at h;rw[I.beq_eq h.1,jA.beq_eq h.2]
 end
def Eb(ops:Array Oper)(ms:List Nat)(i j:Nat):Bool:=
 match ops[i]?,ops[j]? with
 |some o,some q=>(i != j)&&(!gn ms j i)&&(gn ms i j||o.apart ops q)
 |_,_=>false
def GY(ops:Array Oper)(ms:List Nat):List Nat->Bool
 |[]=>true
 |i::is=>is.all (Eb ops ms i)&&GY ops ms is
theorem OE{ops:Array Oper}{ms:List Nat}: ∀{is:List Nat},GY ops ms is=true->is.Pairwise λi j=>Eb ops ms i j=true
 |[],_=> .nil
 |i::is,h=>by
  simp only[GY,Bool.and_eq_true,List.all_eq_true] at h;exact .cons h.1 (OE h.2)
def SM(n:Nat)(o:Oper):Bool:=o.after.toList.all λe=> !Region.binds .any e||decide (e.on<n)
def B0(ops:Array Oper)(ms ord:List Nat):Bool:=
 (List.range ops.size).all (λi=>ord.contains i)&&(ord.all (λi=> !gn ms i i)&&(ops.toList.all (SM ops.size)&&GY ops ms ord))
def qU(ms:List Nat):List dM->List Nat->Bool
 |[],_=>true
 |t::ts,ids=>match t.k with
  | .gX _ _=>ids.all (λj=>gn ms j t.i)&&qU ms ts (t.i::ids)
  | .new _ _=>qU ms ts (t.i::ids)
  |_=>qU ms ts ids
theorem GI{ms:List Nat}: ∀{A:List dM} {t:dM} {B:List dM} {ids:List Nat} {v:I} {H:J},qU ms (A++t::B) ids=true->t.k= .gX v H->
  (∀j∈ids,gn ms j t.i=true)/\ ∀u∈A,u.k.ji=true->gn ms u.i t.i=true
 |[],t,B,ids,v,H,h,bC=>by
  simp only[List.nil_append,qU,bC,Bool.and_eq_true,List.all_eq_true] at h;exact⟨h.1,λu hu=>by simp at hu⟩
 |c::A,t,B,ids,v,H,h,bC=>by
  simp only[List.cons_append,qU] at h;split at h
  ·simp only[Bool.and_eq_true] at h;obtain⟨U,aa⟩:=GI h.2 bC;refine⟨λj bP=>U j (by simp[bP]),λu hu bW=> ?_⟩;rcases List.mem_cons.1 hu with rfl|hu
   ·exact U _ (by simp)
   ·exact aa u hu bW
  ·obtain⟨U,aa⟩:=GI h bC;refine⟨λj bP=>U j (by simp[bP]),λu hu bW=> ?_⟩;rcases List.mem_cons.1 hu with rfl|hu
   ·exact U _ (by simp)
   ·exact aa u hu bW
  ·rename_i C0 jO;obtain⟨U,aa⟩:=GI h bC;refine⟨U,λu hu bW=> ?_⟩;rcases List.mem_cons.1 hu with rfl|hu
   ·exfalso;cases ah:u.k with
    |new v b=>exact jO v b ah
    |gX v H=>exact C0 v H ah
    |_=>rw[ah] at bW;cases bW
   ·exact aa u hu bW
def rV(ms:List Nat)(rd:J->Bool)(i:Nat):List dM->J->Bool
 |[],H=>rd H
 |t::ts,H=>if t.k.ji then(gn ms t.i i||rd H)&&(gn ms i t.i||rV ms rd i ts (t.k.heap H)) else rV ms rd i ts H
theorem Gk{k:K}(h:k.ji=false)(H:J):k.heap H=H:=by
 cases k<;>first|rfl|cases h
theorem KW{ms:List Nat}{rd:J->Bool}{i:Nat}: ∀{A B:List dM} {H:J},rV ms rd i (A++B) H=true->(∀u∈A,u.k.ji=true->gn ms i u.i=false)->
  (∀u AU,B=u::AU->u.k.ji=true/\gn ms u.i i=false)->rd (eO A H)=true
 |[],[],H,h,_,_=>h
 |[],u::B,H,h,_,h5=>by
  obtain⟨U,aa⟩:=h5 u B rfl;simp only[List.nil_append,rV,U,if_true,Bool.and_eq_true,Bool.or_eq_true,aa] at h;simpa [eO] using h.1
 |t::A,B,H,h,hG,h5=>by
  simp only[List.cons_append,rV] at h;split at h
  ·rename_i bW;simp only[Bool.and_eq_true,Bool.or_eq_true,hG t (by simp) bW] at h;rw[eO];exact KW (h.2.resolve_left (by simp)) (λu hu=>hG u (by simp[hu])) h5
  ·rename_i bW;rw[eO,Gk (by simpa using bW)];exact KW h (λu hu=>hG u (by simp[hu])) h5
def ze(P:Program)(o:Op)(R:ck)(v:I)(H:J):Bool:=
 match mI P o R H with
 |some u=>I.beq u v
 |none=>false
theorem Rj{P:Program}{o:Op}{R:ck}{v:I}{H:J}(h:ze P o R v H=true):mI P o R H=some v:=by
 unfold ze at h;split at h
 ·rename_i u hu;rw[hu,I.beq_eq h]
 ·cases h
def J.only(H:J):J:=match H.get (H.next-1) with
 |some b=>⟨dd.put b H.next .leaf (H.next-1),H.next⟩
 |none=>⟨.leaf,H.next⟩
theorem J.GN{H:J}{b:dZ}{l:Nat}{x:dZ}(h:(H.push b).only.get l=some x):l=H.next/\x=b:=by
 have e:(H.push b).get ((H.push b).next-1)=some b:=J.ca H b;unfold J.only at h;rw[e] at h;simp only[J.get,J.b6,Nat.add_sub_cancel] at h;split at h
 ·by_cases ax:H.next=l
  ·subst ax;rw[dd.Ds _ _ _ _ Z] at h;exact⟨rfl,by simpa using h.symm⟩
  ·rw[dd.Dp _ _ _ _ _ ax] at h;rw[dd.DQ] at h;cases h
 ·cases h
def xx(k:K):Bool:=match k with
 | .gX _ _=>false
 |_=>true
def zb(ms:List Nat)(i:Nat):List dM->Bool->Bool
 |[],_=>false
 |t::ts,s=>match t.k with
  | .new _ _=>(s&&gn ms t.i i&&ts.all λu=>xx u.k)||zb ms i ts (s|| !gn ms t.i i)
  | .gX _ _=>zb ms i ts (s|| !gn ms t.i i)
  |_=>zb ms i ts s
def sQ(ms:List Nat)(rd:J->Bool)(i:Nat):List dM->J->Bool->Bool
 |[],_,_=>false
 |t::ts,H,s=>match t.k with
  | .new _ b=>bif s&&gn ms t.i i&&ts.all (λu=>xx u.k) then rd (H.push b).only||sQ ms rd i ts (H.push b) (s|| !gn ms t.i i) else sQ ms rd i ts (H.push b) (s|| !gn ms t.i i)
  | .gX _ H'=>sQ ms rd i ts H' (s|| !gn ms t.i i)
  |_=>sQ ms rd i ts H s
theorem Sf{ms:List Nat}{rd:J->Bool}{i:Nat}: ∀{T:List dM} {H:J} {s:Bool},sQ ms rd i T H s=true->
  ∃A u B v b,T=A++u::B/\u.k= .new v b/\gn ms u.i i=true/\(∀x∈B,xx x.k=true)/\rd ((eO A H).push b).only=true
 |[],H,s,h=>by cases h
 |t::ts,H,s,h=>by
  have HT: ∀{H':J} {s':Bool},t.k.heap H=H'->sQ ms rd i ts H' s'=true-> ∃A u B v b,t::ts=A++u::B/\u.k= .new v b/\gn ms u.i i=true/\(∀x∈B,xx x.k=true)/\rd ((eO A H).push b).only=true:=by
   intro H' s' e bZ;obtain⟨A,u,B,v,b,aI,bc,dm,eS,gT⟩:=Sf bZ;exact⟨t::A,u,B,v,b,by rw[aI];rfl,bc,dm,eS,by rw[eO,e];exact gT⟩
  unfold sQ at h;split at h
  ·rename_i v b ah;have bW:t.k.heap H=H.push b:=by rw[ah];rfl
   cases aS:(s&&gn ms t.i i&&ts.all λu=>xx u.k) with
   |true=>
    rw[aS,bx,Bool.or_eq_true] at h;simp only[Bool.and_eq_true,List.all_eq_true] at aS;rcases h with h|h
    ·exact⟨[],t,ts,v,b,rfl,ah,aS.1.2,aS.2,h⟩
    ·exact HT bW h
   |false=>rw[aS,bi] at h;exact HT bW h
  ·rename_i v H' ah;exact HT (by rw[ah];rfl) h
  ·rename_i U aa;refine HT (Gk ?_ H) h;cases ah:t.k with
   |new v b=>exact absurd ah (U v b)
   |gX v H'=>exact absurd ah (aa v H')
   |_=>rfl
def Cm(ms:List Nat)(rd:J->Bool)(i:Nat)(T:List dM)(H:J):Bool:=
 bif zb ms i T false then rV ms rd i T H||sQ ms rd i T H false else rV ms rd i T H
theorem agi{ms:List Nat}{rd:J->Bool}{i:Nat}{T:List dM}{H:J}(h:Cm ms rd i T H=true):rV ms rd i T H=true\/sQ ms rd i T H false=true:=by
 unfold Cm at h;cases aS:zb ms i T false with
 |true=>rw[aS,bx,Bool.or_eq_true] at h;exact h
 |false=>rw[aS,bi] at h;exact .inl h
def uh(P:Program)(ms:List Nat)(hE:Nat->Bool)(T:List dM)(H:J):List dM->Bool
 |[]=>true
 |t::ts=>(match t.k with
  | .read v=>hE t.i||Cm ms (ze P t.o.op t.R v) t.i T H
  |_=>true)&&uh P ms hE T H ts
theorem Rv{P:Program}{ms:List Nat}{hE:Nat->Bool}{T:List dM}{H:J}{t:dM}{v:I}(bC:t.k= .read v): ∀{ts:List dM},uh P ms hE T H ts=true->t∈ts->hE t.i=true\/Cm ms (ze P t.o.op t.R v) t.i T H=true
 |[],_,hm=>by simp at hm
 |u::ts,h,hm=>by
  simp only[uh,Bool.and_eq_true] at h;rcases List.mem_cons.1 hm with rfl|hm
  ·have:=h.1;rw[bC] at this;simpa using this
  ·exact Rv bC h.2 hm
section
variable {P:Program}{call:av}{ops:Array Oper}{ord:List Nat}{iq fb:ck}{H0 dU:J}{T:List dM}{ρ0:Env}{w0:World}{Q:Exit->Act->World->Prop}
def fR(listed:Array Bool)(i:Nat):Bool:=listed.getD i false
theorem Rc{i j:Nat}{o q:Oper}(be:ops[i]? =some o)(bP:ops[j]? =some q)(h:Eb ops (gV ops) i j=true):
  i≠j/\gn (gV ops) j i=false/\(gn (gV ops) i j=true\/o.apart ops q=true):=by
 unfold Eb at h;rw[be,bP] at h;simp only[Bool.and_eq_true,bne_iff_ne,ne_eq,Bool.not_eq_true',Bool.or_eq_true] at h;exact⟨h.1.1,h.1.2,h.2⟩
def tied(ops:Array Oper)(ms ord:List Nat)(i:Nat):Bool:=
 ord.all λj=>(j==i)||(match ops[j]? with|some o=> !zd o.op|none=>true)||gn ms j i||gn ms i j
theorem afk{ms ord:List Nat}{i j:Nat}{o:Oper}(h:tied ops ms ord i=true)(bP:j∈ord)(dK:j≠i)(bs:ops[j]? =some o)(bW:zd o.op=true):gn ms j i=true\/gn ms i j=true:=by
 unfold tied at h;rw[List.all_eq_true] at h;have:=h j bP;rw[bs] at this;simpa [dK,bW] using this
structure Ctx(P:Program)(call:av)(ops:Array Oper)(ord:List Nat)(iq:ck)(H0:J)(T:List dM)(fb:ck)(dU:J):Prop where
 aH:canRun P call ops ord iq H0=some (T,fb,dU)
 ME:B0 ops (gV ops) ord=true
 gX:qU (gV ops) T []=true
 win:uh P (gV ops) (tied ops (gV ops) ord) T H0 T=true
theorem Ctx.Wz(c:Ctx P call ops ord iq H0 T fb dU):T.Pairwise λt u=>Eb ops (gV ops) t.i u.i=true:=by
 have h:=c.ME;simp only[B0,Bool.and_eq_true] at h;have aa:=OE h.2.2.2;rw[<-(tv c.aH).1] at aa;exact(List.pairwise_map.1 aa)
theorem Ctx.at(c:Ctx P call ops ord iq H0 T fb dU){A B:List dM}{t:dM}(h:T=A++t::B):
  ops[t.i]? =some t.o/\(∀d,t.R.get d=kI (λ_=>true) d A (iq.get d))/\nx P call ops t.o t.R (eO A H0)=some t.k/\(∀d,t.o.dst=some d->d<iq.size):=
 Kl (by rw[<-h];exact c.aH)
theorem Ctx.mem(c:Ctx P call ops ord iq H0 T fb dU){t:dM}(h:t∈T):ops[t.i]? =some t.o:=by
 obtain⟨A,B,h⟩:=List.append_of_mem h;exact(c.at h).1
theorem Ctx.before(c:Ctx P call ops ord iq H0 T fb dU){A B:List dM}{t:dM}(h:T=A++t::B){u:dM}(hu:u∈A):
  u.i≠t.i/\gn (gV ops) t.i u.i=false/\(gn (gV ops) u.i t.i=true\/u.o.apart ops t.o=true):=by
 have bA:=c.Wz;rw[h,List.pairwise_append] at bA;exact Rc (c.mem (by rw[h];simp[hu])) (c.mem (by rw[h];simp)) (bA.2.2 u hu t (by simp))
theorem Ctx.after(c:Ctx P call ops ord iq H0 T fb dU){A B:List dM}{t:dM}(h:T=A++t::B){u:dM}(hu:u∈B):
  t.i≠u.i/\gn (gV ops) u.i t.i=false/\(gn (gV ops) t.i u.i=true\/t.o.apart ops u.o=true):=by
 have bA:=c.Wz;rw[h,List.pairwise_append,List.pairwise_cons] at bA;exact Rc (c.mem (by rw[h];simp)) (c.mem (by rw[h];simp[hu])) (bA.2.1.1 u hu)
theorem Ctx.looks(c:Ctx P call ops ord iq H0 T fb dU){A B:List dM}{t:dM}(h:T=A++t::B){L:Nat->Bool}(aS:D4 ops L)(hw:Ca L t.o)(gA:L t.i=false):
  ∀d∈t.o.looksAt ops,kI L d T (iq.get d)=t.R.get d:=by
 intro d bb;obtain⟨aI,bc,_,_⟩:=c.at h;rw[bc d,h,JJ,kI];rw[if_neg (by rintro⟨U,_⟩;rw[gA] at U;cases U)];rw[Gp (A:=B),DD (L':=λ_=>true)]
 ·intro u hu Fs;obtain⟨_,_,ae⟩:=c.before h hu;rcases ae with ae|ae
  ·exact tx aS _ _ aI hw _ ae
  ·exact absurd bb ((Oper.apart_spec ae).1 d Fs)
 ·intro u hu Fs;obtain⟨_,_,ae⟩:=c.after h hu;rcases ae with ae|ae
  ·cases M_:L u.i with
   |false=>rfl
   |true=>
    have s_:=c.mem (t:=u) (by rw[h];simp[hu]);have:=tx aS _ _ s_ (aS _ _ s_ M_) _ ae;rw[gA] at this;cases this
  ·exact absurd bb ((Oper.apart_spec ae).2.2 d Fs)
theorem Ctx.am6(c:Ctx P call ops ord iq H0 T fb dU){A B:List dM}{t:dM}(h:T=A++t::B){L L':Nat->Bool}(aS:D4 ops L)(gA:L t.i=false)(qj:L' t.i=true)(aO: ∀j,j≠t.i->L' j=L j)(d:Nat)(v:I):
  kI L' d T v=if t.o.dst=some d then t.k.val else kI L d T v:=by
 have hG: ∀u∈A,u.o.dst=some d->L' u.i=L u.i:=λu hu _=>aO _ (c.before h hu).1
 have h5: ∀u∈B,u.o.dst=some d->L' u.i=L u.i:=λu hu _=>aO _ (Ne.symm (c.after h hu).1)
 rw[h,JJ,JJ,DD hG];simp only[kI];rw[DD h5];by_cases bb:t.o.dst=some d
 ·rw[if_pos ⟨qj,bb⟩,if_pos bb];refine Gp λu hu Fs=> ?_
  obtain⟨_,_,ae⟩:=c.after h hu;rcases ae with ae|ae
  ·cases M_:L u.i with
   |false=>rfl
   |true=>
    have s_:=c.mem (t:=u) (by rw[h];simp[hu]);have:=tx aS _ _ s_ (aS _ _ s_ M_) _ ae;rw[gA] at this;cases this
  ·exact absurd Fs ((Oper.apart_spec ae).2.1 d bb)
 ·rw[if_neg (λx=>bb x.2),if_neg bb,if_neg (λx=>bb x.2)]
theorem jB.turns{N:Nat}{ρ:Env}{w:World}{L:Nat->Bool}: ∀{C D:List dM} {H:J},iA H (C++D)->(∀u∈C,u.k.ji=true->L u.i=true/\ ∃v b,u.k= .new v b)->
  jB ρ0 H0 w0 N (hJ L (C++D) H) ρ H w->jB ρ0 H0 w0 N (hJ L D (eO C H)) ρ (eO C H) w
 |[],D,H,_,_,m=>m
 |c::C,D,H,hm,tn,m=>by
  by_cases bW:c.k.ji=true
  ·obtain⟨ax,v,b,ah⟩:=tn c (by simp) bW;have bA:hJ L (c::C++D) H H.next=some b:=by simp[hJ,ah,ax]
   have m1:=m.X2 bA;have hj:iA (H.push b) (C++D):=by have:=hm.2;rw[ah] at this;exact this
   have heq:(λk=>if k=H.next then none else hJ L (c::C++D) H k)=hJ L (C++D) (H.push b):=by
    funext k
    by_cases eZ:k=H.next
    ·rw[if_pos eZ];cases bg:hJ L (C++D) (H.push b) k with
     |none=>rfl
     |some fK=>have:=DL hj bg;simp at this;omega
    ·rw[if_neg eZ];simp[hJ,ah,eZ]
   rw[heq] at m1;have:=jB.turns hj (λu hu=>tn u (by simp[hu])) m1;rw[eO,ah];exact this
  ·have dK: ∀v b,c.k≠ .new v b:=λv b h=>by rw[h] at bW;exact bW rfl
   rw[List.cons_append,DB dK] at m;have se:=Gk (by simpa using bW) H;rw[eO];rw[se] at m ⊢;refine jB.turns ?_ (λu hu=>tn u (by simp[hu])) m;have:=hm.2;rwa[se] at this
structure Inv(ops:Array Oper)(iq:ck)(H0:J)(T:List dM)(N:Nat)(ρ0:Env)(w0:World)(listed:Array Bool)(a:Act)(w:World):Prop where
 size:listed.size=ops.size
 closed:D4 ops (fR listed)
 mid: ∃ρ T1 T2,T=T1++T2/\(∀t∈T1,t.k.ji=true->fR listed t.i=true)/\(∀t∈T2,(∃v H,t.k= .gX v H)->fR listed t.i=false)/\
  jB ρ0 H0 w0 N (hJ (fR listed) T2 (eO T1 H0)) ρ (eO T1 H0) w/\ ∃pv:ck,hp ρ pv a/\pv.size=iq.size/\ ∀d,pv.get d=kI (fR listed) d T (iq.get d)
theorem Ctx.final(c:Ctx P call ops ord iq H0 T fb dU){listed:Array Bool}{a:Act}{w:World}(be:Inv ops iq H0 T dU.next ρ0 w0 listed a w)(rY: ∀t∈T,fR listed t.i=true):
  ∃ρ,hp ρ fb a/\Step ρ0 H0 w0 ρ dU w:=by
 obtain⟨ρ,T1,T2,aH,U,aa,m,pv,gj,e3,gk⟩:=be.mid;obtain⟨aI,bc,dm,eS⟩:=tv c.aH;have j1:=DA c.aH;rw[aH] at j1;have hj:=(iA.append j1).2;have fp:=jB.turns (C:=T2) (D:=[]) (L:=fR listed) (by simpa using hj) (λu hu bW=>by
  have ax:=rY u (by rw[aH];simp[hu]);refine⟨ax,?_⟩;cases ah:u.k with
  |new v b=>exact⟨v,b,rfl⟩
  |gX v H=>rw[aa u hu ⟨v,H,ah⟩] at ax;cases ax
  |_=>rw[ah] at bW;cases bW) (by simpa using m)
 rw[<-sq,<-aH,<-bc] at fp;refine⟨ρ,⟨by rw[dm,<-e3];exact gj.size,λd=> ?_,gj.none⟩,fp.done rfl⟩;have:=gj.get d;rw[gk d,DD (L':=λ_=>true) (λt bC _=>rY t bC),<-eS d] at this;exact this
theorem Qu{listed:Array Bool}{i:Nat}(h:i∈Region.ready .any ops listed)(aO:listed.size=ops.size):
  ∃o,ops[i]? =some o/\fR listed i=false/\Ca (fR listed) o/\i<ops.size:=by
 unfold Region.ready at h;simp only[List.mem_filter,List.mem_range,Bool.and_eq_true,Bool.not_eq_true'] at h;obtain⟨eo,U,aa⟩:=h;have bs:ops[i]? =some ops[i]:=by simp[eo]
 refine⟨ops[i],bs,?_,?_,eo⟩
 ·unfold fR;rw[Array.getD_eq_getD_getElem?] at U ⊢;have:i<listed.size:=Z;simp[this] at U ⊢;exact U
 ·rw[bs] at aa;simp only[Option.map_some,Option.getD_some,Array.all_eq_true'] at aa;intro e he ay;have:=aa e he;simpa [ay,fR] using this
theorem af4{listed:Array Bool}{i:Nat}{o:Oper}(bs:ops[i]? =some o)(ax:fR listed i=false)(hw:Ca (fR listed) o)(aO:listed.size=ops.size):i∈Region.ready .any ops listed:=by
 unfold Region.ready;have eo:i<ops.size:=(Array.getElem?_eq_some_iff.1 bs).1;simp only[List.mem_filter,List.mem_range,Bool.and_eq_true,Bool.not_eq_true'];refine⟨eo,?_,?_⟩
 ·unfold fR at ax;rw[Array.getD_eq_getD_getElem?] at ax ⊢;have:i<listed.size:=Z;simp[this] at ax ⊢;exact ax
 ·rw[bs];simp only[Option.map_some,Option.getD_some,Array.all_eq_true'];intro e he;by_cases ay:Region.binds .any e=true
  ·have:=hw e he ay;unfold fR at this;rw[this];simp
  ·simp[ay]
theorem Ctx.aa6(c:Ctx P call ops ord iq H0 T fb dU){listed:Array Bool}(aO:listed.size=ops.size)(aV:Region.ready .any ops listed=[]): ∀t∈T,fR listed t.i=true:=by
 have El:=c.ME;simp only[B0,Bool.and_eq_true,List.all_eq_true,List.mem_range] at El;obtain⟨ans,anB,ala,_⟩:=El;have Xf:=(tv c.aH).1;have key: ∀(n:Nat) (A:List dM) (t:dM) (B:List dM),A.length=n->T=A++t::B->fR listed t.i=true:=by
  intro n
  induction n using Nat.strongRecOn with
  |_ n aT=>
   intro A t B hlen h;have bs:=(c.at h).1;cases ax:fR listed t.i with
   |true=>rfl
   |false=>
    have:t.i∈Region.ready .any ops listed:=by
     refine af4 bs ax (λe he ay=> ?_) aO;have Nf:=agG bs he ay;have eo:e.on<ops.size:=by
      have U:=ala t.o (by
       have:=(Array.getElem?_eq_some_iff.1 bs);obtain⟨aa,ae⟩:=this;rw[<-ae];simp)
      unfold SM at U;rw[List.all_eq_true] at U;have aa:=U e (by simpa using he);simpa [ay] using aa
     have kP:=ans e.on eo;rw[List.contains_iff_mem,<-Xf,List.mem_map] at kP;obtain⟨u,hu,NB⟩:=kP;rw[h] at hu;rcases List.mem_append.1 hu with hu|hu
     ·obtain⟨N_,aqe,hG⟩:=List.append_of_mem hu;rw[<-NB];refine aT N_.length ?_ N_ u (aqe++t::B) rfl (by rw[h,hG];simp);rw[<-hlen,hG];simp
     ·rcases List.mem_cons.1 hu with rfl|hu
      ·exfalso;have U:=anB u.i (by rw[<-Xf,List.mem_map];exact⟨u,by rw[h];simp,rfl⟩);rw[<-NB] at Nf;rw[Nf] at U;cases U
      ·exfalso;have U:=(c.after h hu).2.1;rw[NB,Nf] at U;cases U
    rw[aV] at this;simp at this
 intro t bC;obtain⟨A,B,h⟩:=List.append_of_mem bC;exact key _ A t B rfl h
theorem QP{p q:Nat->Bool}{i:Nat}: ∀{l:List Nat},i∈l->(∀j,q j=true->p j=true)->p i=true->q i=false->l.countP q<l.countP p
 |[],h,_,_,_=>by simp at h
 |j::l,h,himp,bA,bg=>by
  have hle: ∀l:List Nat,l.countP q<=l.countP p:=λl=>List.countP_mono_left λx _ af=>himp x af
  simp only[List.countP_cons];rcases List.mem_cons.1 h with rfl|h
  ·rw[bA,bg];have:=hle l;simp;omega
  ·have:=QP h himp bA bg;cases apv:q j with
   |true=>rw[himp j apv];simp;omega
   |false=>cases p j<;>simp<;>omega
theorem GX{listed:Array Bool}{i:Nat}(be:i<listed.size)(j:Nat):fR (listed.setIfInBounds i true) j=if j=i then true else fR listed j:=by
 unfold fR;rw[Array.getD_eq_getD_getElem?,Array.getD_eq_getD_getElem?,Array.getElem?_setIfInBounds];by_cases h:i=j
 ·subst h;simp[be]
 ·have bZ: ¬j=i:=λe=>h e.symm
  simp[h,bZ]
end
end
section
section
variable {E:Env}{P:Program}{call:av}{ops:Array Oper}{ord:List Nat}{iq fb:ck}{H0 dU:J}{T:List dM}{ρ0:Env}{w0:World}{Q:Exit->Act->World->Prop}
theorem Ctx.uniq(c:Ctx P call ops ord iq H0 T fb dU){A B:List dM}{t:dM}(h:T=A++t::B){u:dM}(hu:u∈T)(he:u.i=t.i):u=t:=by
 rw[h] at hu;rcases List.mem_append.1 hu with hu|hu
 ·exact absurd he (c.before h hu).1
 ·rcases List.mem_cons.1 hu with rfl|hu
  ·rfl
  ·exact absurd he.symm (c.after h hu).1
def LI(H0:J)(T:List dM)(N:Nat)(ρ0:Env)(w0:World)(L:Nat->Bool)(ρ:Env)(w:World)(T1 T2:List dM):Prop:=
 T=T1++T2/\(∀t∈T1,t.k.ji=true->L t.i=true)/\(∀t∈T2,(∃v H,t.k= .gX v H)->L t.i=false)/\jB ρ0 H0 w0 N (hJ L T2 (eO T1 H0)) ρ (eO T1 H0) w
theorem Ctx.next(c:Ctx P call ops ord iq H0 T fb dU){A B:List dM}{t:dM}(h:T=A++t::B){listed:Array Bool}(aO:listed.size=ops.size)(aS:D4 ops (fR listed))(ax:fR listed t.i=false)
  (hw:Ca (fR listed) t.o) {ρ:Env} {pv:ck} {a:Act} {x:Value} {w:World} (gj:hp ρ pv a) (e3:pv.size=iq.size) (gk: ∀d,pv.get d=kI (fR listed) d T (iq.get d)) (af:cT ρ t.k.val x) {T1 T2:List dM}
  (m:LI H0 T dU.next ρ0 w0 (fR (listed.setIfInBounds t.i true)) ρ w T1 T2):Inv ops iq H0 T dU.next ρ0 w0 (listed.setIfInBounds t.i true) (a.put t.o.dst x) w:=by
 obtain⟨bs,_,_,bb⟩:=c.at h;have eo:t.i<listed.size:=by rw[aO];exact(Array.getElem?_eq_some_iff.1 bs).1
 have qj:fR (listed.setIfInBounds t.i true) t.i=true:=by rw[GX eo];simp
 have pe: ∀j,j≠t.i->fR (listed.setIfInBounds t.i true) j=fR listed j:=λj bP=>by rw[GX eo];simp[bP]
 have j1: ∀j,fR listed j=true->fR (listed.setIfInBounds t.i true) j=true:=λj bP=>by
  by_cases e:j=t.i
  ·rw[e];exact qj
  ·rw[pe j e];exact bP
 have anW: ∃cj,pv.put t.o.dst t.k.val=some cj:=by
  cases anu:t.o.dst with
  |none=>exact⟨pv,rfl⟩
  |some d=>
   have:=bb d anu;exact⟨{pv with t:=dd.put t.k.val (d+1) pv.t d},by simp only[ck.put];rw[if_pos (by rw[e3];exact this)]⟩
 obtain⟨cj,ln⟩:=anW;refine⟨by simpa using aO,λi o be Y4 e he ay=> ?_,ρ,T1,T2,m.1,m.2.1,m.2.2.1,m.2.2.2,cj,gj.put ln af,by rw[ck.BK ln,e3],λd=> ?_⟩
 ·by_cases cC:i=t.i
  ·subst cC;rw[bs] at be;cases be;exact j1 _ (hw e he ay)
  ·rw[pe i cC] at Y4;exact j1 _ (aS i o be Y4 e he ay)
 ·rw[ck.DV ln d,c.am6 h aS ax qj pe d,gk d]
theorem Ctx.norm(c:Ctx P call ops ord iq H0 T fb dU){N:Nat}{L:Nat->Bool}{ρ:Env}{w:World}: ∀{T2 T1:List dM},LI H0 T N ρ0 w0 L ρ w T1 T2->
  ∃CM CN,LI H0 T N ρ0 w0 L ρ w CM CN/\ ∀u AU,CN=u::AU->u.k.ji=true/\L u.i=false
 |[],T1,m=>⟨T1,[],m,λu AU h=>by cases h⟩
 |u::T2,T1,m=>by
  by_cases bW:u.k.ji=true/\L u.i=false
  ·exact⟨T1,u::T2,m,λZ7 AU h=>by simp only[List.cons.injEq] at h;rw[<-h.1];exact bW⟩
  ·obtain⟨U,aa,ae,al⟩:=m;have j1:=DA c.aH;rw[U] at j1;have hj:=(iA.append j1).2;have fp:=jB.turns (C:=[u]) (D:=T2) (L:=L) hj (λv bw C3=>by
    have:v=u:=by simpa using bw
    subst this;have ax:L v.i=true:=by
     cases bw:L v.i with
     |true=>rfl
     |false=>exact absurd ⟨C3,bw⟩ bW
    refine⟨ax,?_⟩;cases ah:v.k with
    |new x b=>exact⟨x,b,rfl⟩
    |gX x H=>rw[ae v (by simp) ⟨x,H,ah⟩] at ax;cases ax
    |_=>rw[ah] at C3;cases C3) al
   rw[<-sq] at fp;refine c.norm (T2:=T2) (T1:=T1++[u]) ⟨by rw[U];simp,λv bw C3=> ?_,λv bw=>ae v (by simp[bw]),fp⟩;rcases List.mem_append.1 bw with bw|bw
   ·exact aa v bw C3
   ·have:v=u:=by simpa using bw
    subst this;cases bw:L v.i with
    |true=>rfl
    |false=>exact absurd ⟨C3,bw⟩ bW
theorem Ks{L:Nat->Bool}{u:dM}{v:I}{b:dZ}(hu:u.k= .new v b)(gA:L u.i=true): ∀{C D:List dM} {H:J},iA H (C++u::D)->hJ L (C++u::D) H (eO C H).next=some b
 |[],D,H,_=>by simp[hJ,hu,gA,eO]
 |c::C,D,H,hm=>by
  have aT:=Ks hu gA (C:=C) (D:=D) hm.2;have hle: ∀{C:List dM} {H:J},iA H C->H.next<=(eO C H).next:=by
   intro C
   induction C with
   |nil=>intro H _;exact bL _
   |cons x C AC=>intro H h;exact Nat.le_trans h.1 (AC h.2)
  by_cases aV: ∃v b,c.k= .new v b
  ·obtain⟨dr,fK,ah⟩:=aV;have aa:=hle (iA.append hm.2).1;have hj:=hm.2;rw[ah] at aa hj aT;simp only[K.heap,J.b6] at aa aT;simp only[List.cons_append,hJ,ah,eO,K.heap];rw[if_neg Z];exact aT
  ·rw[List.cons_append,DB λv b h=>aV ⟨v,b,h⟩,eO];exact aT
theorem J_{l:Nat}: ∀{C:List dM} {H:J},(∀x∈C,xx x.k=true)->l<H.next->(eO C H).get l=H.get l
 |[],H,_,_=>rfl
 |c::C,H,tn,ax=>by
  have a6:=tn c (by simp);rw[eO];cases ah:c.k with
  |new v b=>
   rw[J_ (λx af=>tn x (by simp[af])) (by simp only[K.heap,J.b6];omega)];exact J.gy Z
  |gX v H'=>rw[ah] at a6;cases a6
  |_=>exact J_ (λx af=>tn x (by simp[af])) ax
theorem Rel.ag1{ρ:Env}{H:J}{w:World}{b:dZ}(h:b≠ .dead-> ∃loc,ρ H.next=some loc/\qS ρ w loc b):Rel ρ (H.push b).only w where
 row l ro esz els aX:=by
  obtain⟨rfl,rfl⟩:=J.GN aX;obtain⟨loc,U,aa⟩:=h (by intro e;cases e);exact⟨loc,U,aa⟩
 map l es aX:=by
  obtain⟨rfl,rfl⟩:=J.GN aX;obtain⟨loc,U,aa⟩:=h (by intro e;cases e);exact⟨loc,U,aa⟩
 apart l l' loc dB U aa dK _ _:=by
  exfalso;have bd: ∃x,(H.push b).only.get l=some x:=by
   unfold J.rw at U;cases aX:(H.push b).only.get l with
   |none=>simp[aX] at U
   |some x=>exact⟨x,rfl⟩
  have a2: ∃x,(H.push b).only.get l'=some x:=by
   unfold J.live at aa;cases aX:(H.push b).only.get l' with
   |none=>simp[aX] at aa
   |some x=>exact⟨x,rfl⟩
  obtain⟨x,bd⟩:=bd;obtain⟨y,a2⟩:=a2;exact dK ((J.GN bd).1.trans (J.GN a2).1.symm)
theorem Ctx.any(c:Ctx P call ops ord iq H0 T fb dU)(o1:rB E P call)(nd:E.le ρ0)(eH: ∀ρ a w,hp ρ fb a->Step ρ0 H0 w0 ρ dU w->Q .normal a w):
  ∀(fuel:Nat) (listed:Array Bool) (a:Act) (w:World),Inv ops iq H0 T dU.next ρ0 w0 listed a w->(List.range ops.size).countP (λj=> !fR listed j)<=fuel->wpAny P .any ops Q fuel listed a w:=by
 have Ct: ∀listed a w,Inv ops iq H0 T dU.next ρ0 w0 listed a w->Region.ready .any ops listed=[]->Q .normal a w:=by
  intro listed a w be a7;obtain⟨ρ,U,aa⟩:=c.final be (c.aa6 be.size a7);exact eH ρ a w U aa
 intro fuel
 induction fuel with
 |zero=>
  intro listed a w be anr;have a7:Region.ready .any ops listed=[]:=by
   rw[List.eq_nil_iff_forall_not_mem];intro i kP;obtain⟨o,U,aa,ae,al⟩:=Qu kP be.size;have oC:0<(List.range ops.size).countP (λj=> !fR listed j):=List.countP_pos_iff.2 ⟨i,by simpa using al,by simp[aa]⟩;omega
  exact⟨a7,Ct _ _ _ be a7⟩
 |succ fuel aT=>
  intro listed a w be anr;refine⟨λa7=>Ct _ _ _ be a7,λi kP=> ?_⟩;obtain⟨o,bs,ax,hw,eo⟩:=Qu kP be.size;have El:=c.ME;simp only[B0,Bool.and_eq_true,List.all_eq_true,List.mem_range] at El;have HL:=El.1 i eo;rw[List.contains_iff_mem,<-(tv c.aH).1,List.mem_map] at HL;obtain⟨t,bC,rfl⟩:=HL;have apF:=c.mem bC;obtain rfl:t.o=o:=Option.some.inj (apF.symm.trans bs);obtain⟨ρ,T1,T2,aI,bc,dm,m,pv,gj,e3,gk⟩:=be.mid;have fI:t.i<listed.size:=by rw[be.size];exact eo
  have qj:fR (listed.setIfInBounds t.i true) t.i=true:=by rw[GX fI];simp
  have pe: ∀j,j≠t.i->fR (listed.setIfInBounds t.i true) j=fR listed j:=λj bP=>by rw[GX fI];simp[bP]
  have LP:(List.range ops.size).countP (λj=> !fR (listed.setIfInBounds t.i true) j)<=fuel:=by
   have:=QP (p:=λj=> !fR listed j) (q:=λj=> !fR (listed.setIfInBounds t.i true) j) (i:=t.i) (l:=List.range ops.size) (by simpa using eo)
    (λj bP=>by
     by_cases e:j=t.i
     ·rw[e,qj] at bP;cases bP
     ·simp only[pe j e] at bP;exact bP) (by simp[ax]) (by simp[qj])
   omega
  obtain⟨N9,Jb,a6⟩:=List.append_of_mem bC;have Vp: ∀d∈t.o.looksAt ops,pv.get d=t.R.get d:=λd bb=>by rw[gk d];exact c.looks a6 be.closed hw ax d bb
  have Ho:=aai Vp;have aln:Region.wanted t.o (yielded ops a.tmps)=tD ops t.R t.o:=(OW gj t.o).trans (aav Vp);unfold wpOp;rw[bs];simp only[aln];have still:t.k.ji=false-> ∀x,cT ρ t.k.val x->wpAny P .any ops Q fuel (listed.setIfInBounds t.i true) (a.put t.o.dst x) w:=by
   intro bW x af;refine aT _ _ _ (c.next a6 be.size be.closed ax hw gj e3 gk af (T1:=T1) (T2:=T2) ⟨aI,λu hu yd=> ?_,λu hu Ax=> ?_,?_⟩) LP
   ·have:=bc u hu yd;by_cases e:u.i=t.i
    ·rw[e];exact qj
    ·rw[pe _ e];exact this
   ·have dK:u.i≠t.i:=λe=>by
     have:=c.uniq a6 (by rw[aI];simp[hu]) e;subst this;obtain⟨v,H,ah⟩:=Ax;rw[ah] at bW;cases bW
    rw[pe _ dK];exact dm u hu Ax
   ·rw[Du (L':=fR listed) λu hu v b ah=>pe _ λe=>by
     have:=c.uniq a6 (by rw[aI];simp[hu]) e;subst this;rw[ah] at bW;cases bW]
    exact m
  rcases BG (c.at a6).2.2.1 with⟨C4,ah⟩|⟨C4,ah⟩
  ·rw[C4];simp only[if_true];refine .inl ?_;have YN:t.k.ji=true-> ∃C D,T2=C++t::D:=λbW=>by
    rw[aI] at bC;rcases List.mem_append.1 bC with bC|bC
    ·have:=bc t bC bW;rw[ax] at this;cases this
    ·exact List.append_of_mem bC
   have j1:=DA c.aH;cases ie:t.k with
   |skip=>rw[ie] at ah;exact ah.elim
   |pure v=>
    rw[ie] at ah;have eZ:=vZ.congr (λx af=>(Ho x af).symm) ah;exact TP eZ gj λx af=>still (by rw[ie];rfl) x (by rw[ie];exact af)
   |read v=>
    obtain⟨CM,CN,⟨f1,f2,f3,f4⟩,f5⟩:=c.norm (ρ0:=ρ0) (w0:=w0) (N:=dU.next) (L:=fR listed) (ρ:=ρ) (w:=w) (T2:=T2) (T1:=T1) ⟨aI,bc,dm,m⟩;have cp: ∃Dh,Rel ρ Dh w/\mI P t.o.op t.R Dh=some v:=by
     rcases Rv ie c.win bC with Nl|an0
     ·
       refine⟨_,f4.rel,?_⟩;have Ip:mI P t.o.op t.R (eO N9 H0)=some v:=by
        rcases BG (c.at a6).2.2.1 with⟨_,qn⟩|⟨af,_⟩
        ·rw[ie] at qn;exact qn
        ·rw[C4] at af;cases af
       have Wi: ∀u∈T,u.k.ji=true->u.i≠t.i/\(gn (gV ops) u.i t.i=true\/gn (gV ops) t.i u.i=true):=λu hu bW=>by
        have dK:u.i≠t.i:=λe=>by
         have:=c.uniq a6 hu e;subst this;rw[ie] at bW;cases bW
        obtain⟨N_,ar9,U⟩:=List.append_of_mem hu;refine⟨dK,afk Nl ?_ dK (c.at U).1 (Qj (c.at U).2.2.1 bW)⟩;rw[<-(tv c.aH).1,List.mem_map];exact⟨u,hu,rfl⟩
       have anM: ∀u∈N9,u.k.ji=true->fR listed u.i=true:=λu hu bW=>by
        rcases(Wi u (by rw[a6];simp[hu]) bW).2 with U|U
        ·exact tx be.closed _ _ bs hw _ U
        ·have:=(c.before a6 hu).2.1;rw[U] at this;cases this
       have ald: ∀u∈Jb,u.k.ji=true->fR listed u.i=false:=λu hu bW=>by
        have Wn:u∈T:=by rw[a6];simp[hu]
        rcases(Wi u Wn bW).2 with U|U
        ·have:=(c.after a6 hu).2.1;rw[U] at this;cases this
        ·cases x_:fR listed u.i with
         |false=>rfl
         |true=>
          have s_:=c.mem Wn;have:=tx be.closed _ _ s_ (be.closed _ _ s_ x_) _ U;rw[ax] at this;cases this
       have Lx:CM++CN=N9++t::Jb:=by rw[<-f1,<-a6]
       rcases List.append_eq_append_iff.1 Lx with⟨er,Fc,Nc⟩|⟨c',x6,lT⟩
       ·cases er with
        |nil=>rw[List.append_nil] at Fc;rw[<-Fc];exact Ip
        |cons u aou=>
         obtain⟨g1,g2⟩:=f5 u (aou++t::Jb) Nc;have:=anM u (by rw[Fc];simp) g1;rw[g2] at this;cases this
       ·have se: ∀(X:List dM) (H:J),(∀u∈X,u.k.ji=false)->eO X H=H:=by
         intro X
         induction X with
         |nil=>intro H _;rfl
         |cons u X aT=>intro H ZW;rw[eO,Gk (ZW u (by simp))];exact aT H λu hu=>ZW u (by simp[hu])
        rw[x6,sq,se c' _ ?_]
        ·exact Ip
        ·intro u hu;cases bW:u.k.ji with
         |false=>rfl
         |true=>
          have U:=f2 u (by rw[x6];simp[hu]) bW;have aa:u∈t::Jb:=by rw[lT];simp[hu]
          rcases List.mem_cons.1 aa with rfl|aa
          ·rw[ie] at bW;cases bW
          ·have:=ald u aa bW;rw[U] at this;cases this
     ·rcases agi an0 with HN|o4
      rotate_left
      ·obtain⟨A,u,B,dr,b,g1,g2,g3,g4,g5⟩:=Sf o4;refine⟨_,Rel.ag1 λay=> ?_,Rj g5⟩;have x_:=tx be.closed _ _ bs hw _ g3;have Lx:CM++CN=A++u::B:=by rw[<-f1,<-g1]
       rcases List.append_eq_append_iff.1 Lx with⟨er,Fc,Nc⟩|⟨c',x6,lT⟩
       ·have bA:=f4.qV (eO A H0).next b (by
         rw[f1] at j1;have hj:=(iA.append j1).2;rw[Nc] at hj ⊢;rw[Fc,sq];exact Ks g2 x_ hj)
        obtain⟨_,_,_,loc,aU,aJ,_⟩:=bA;exact⟨loc,aU,aJ⟩
       ·cases c' with
        |nil=>
         have bA:=f4.qV (eO A H0).next b (by
          rw[f1] at j1;have hj:=(iA.append j1).2;rw[List.nil_append] at lT;rw[List.append_nil] at x6;rw[<-lT] at hj ⊢;rw[x6] at hj ⊢;exact Ks (C:=[]) g2 x_ hj)
         obtain⟨_,_,_,loc,aU,aJ,_⟩:=bA;exact⟨loc,aU,aJ⟩
        |cons x arm=>
         simp only[List.cons_append,List.cons.injEq] at lT;obtain⟨rfl,lT⟩:=lT;have ut:(eO CM H0).get (eO A H0).next=some b:=by
          rw[x6,sq,eO,g2];rw[J_ (λx af=>g4 x (by rw[lT];simp[af])) (by simp[K.heap])];exact J.ca _ b
         cases b with
         |row ro esz els=>exact f4.rel.row _ _ _ _ ut
         |map es=>exact f4.rel.map _ _ ut
         |dead=>exact absurd rfl ay
      refine⟨_,f4.rel,?_⟩;rw[show rV (gV ops) (ze P t.o.op t.R v) t.i T H0=rV (gV ops) (ze P t.o.op t.R v) t.i (CM++CN) H0 by rw[<-f1]] at HN;exact Rj (KW HN (λu hu yd=>by
       cases ay:gn (gV ops) t.i u.i with
       |false=>rfl
       |true=>
        have s_:=c.mem (t:=u) (by rw[f1];simp[hu]);have:=tx be.closed _ _ s_ (be.closed _ _ s_ (f2 u hu yd)) _ ay;rw[ax] at this;cases this) (λu AU hu=>by
       obtain⟨g1,g2⟩:=f5 u AU hu;refine⟨g1,?_⟩;cases ay:gn (gV ops) u.i t.i with
       |false=>rfl
       |true=>
        have:=tx be.closed _ _ bs hw _ ay;rw[g2] at this;cases this))
    obtain⟨Dh,dt,cp⟩:=cp;rw[<-Po Ho] at cp;exact TT dt cp gj λx af=>still (by rw[ie];rfl) x (by rw[ie];exact af)
   |new v b=>
    obtain⟨C,D,r6⟩:=YN (by rw[ie];rfl);have U:T=(T1++C)++t::D:=by rw[aI,r6];simp
    have LS:=(c.at U).2.2.1;rcases BG LS with⟨_,jq⟩|⟨af,_⟩
    ·rw[ie] at jq;have eZ:=vZ.congr (λx af=>(Ho x af).symm) jq;have hj:iA (eO T1 H0) (C++t::D):=by
      have:=j1;rw[aI,r6] at this;exact(iA.append this).2
     obtain⟨aU,aJ⟩:=Qq (L:=fR listed) (L':=fR (listed.setIfInBounds t.i true)) ie ax qj hj
      (λu hu=>(pe _ (c.before U (by simp[hu])).1).symm) (λu hu=>(pe _ (Ne.symm (c.after U hu).1)).symm)
     have wh:(eO T1 H0).next<=(eO C (eO T1 H0)).next:=(iA.append hj).1.le
     have Y3:(eO C (eO T1 H0)).next<dU.next:=by
      have aa:=(iA.append hj).2;have ae:=aa.2.le;rw[ie] at ae;have al:dU=eO D (K.heap (eO C (eO T1 H0)) (.new v b)):=by
       rw[(tv c.aH).2.1,U,sq,sq,eO,ie]
      rw[al];simp only[K.heap,J.b6] at ae ⊢;omega
     rw[r6] at m;have anC:rX P t.o.op pv (eO C (eO T1 H0)).next=some (v,b):=by rw[<-sq];exact eZ
     refine VF anC gj (m.fresh _ wh Y3 aJ) λx b5 cX loc cE cx eM eB eN gC ng A6 so wt N0 N1=> ?_
     have fp:=m.early wh Y3 aJ cx eM eB eN gC ng A6 so wt N0 N1;rw[<-aU] at fp;refine aT _ _ _ (c.next a6 be.size be.closed ax hw (gj.mono cx) e3 gk (by rw[ie];exact cE) (T1:=T1) (T2:=C++t::D) ⟨by rw[aI,r6],λu hu yd=> ?_,λu hu Ax=> ?_,fp⟩) LP
     ·have:=bc u hu yd;by_cases e:u.i=t.i
      ·rw[e];exact qj
      ·rw[pe _ e];exact this
     ·have dK:u.i≠t.i:=λe=>by
       have:=c.uniq a6 (by rw[aI,r6];simp at hu ⊢;exact .inr hu) e;subst this;obtain⟨dr,H,eZ⟩:=Ax;rw[ie] at eZ;cases eZ
      rw[pe _ dK];exact dm u (by rw[r6];exact hu) Ax
    ·rw[C4] at af;cases af
   |gX v H'=>
    obtain⟨C,D,r6⟩:=YN (by rw[ie];rfl);have U:T=(T1++C)++t::D:=by rw[aI,r6];simp
    have LS:=(c.at U).2.2.1;rcases BG LS with⟨_,jq⟩|⟨af,_⟩
    ·rw[ie] at jq;have eZ:=vZ.congr (λx af=>(Ho x af).symm) jq;have hj:iA (eO T1 H0) (C++t::D):=by
      have:=j1;rw[aI,r6] at this;exact(iA.append this).2
     have HI:=c.gX;rw[U] at HI;have Ty:=(GI HI ie).2;rw[r6] at m;have m1:=jB.turns (C:=C) (D:=t::D) (L:=fR listed) hj (λu hu bW=>by
      have x_:=tx be.closed _ _ bs hw _ (Ty u (by simp[hu]) bW);refine⟨x_,?_⟩;cases Y1:u.k with
      |new x b=>exact⟨x,b,rfl⟩
      |gX x H=>rw[dm u (by rw[r6];simp[hu]) ⟨x,H,Y1⟩] at x_;cases x_
      |_=>rw[Y1] at bW;cases bW) m
     rw[DB (λv b h=>by rw[ie] at h;cases h),ie] at m1;simp only[K.heap] at m1;have s8:iA H' D:=by have:=(iA.append hj).2.2;rw[ie] at this;exact this
     have aoW:dU=eO D H':=by rw[(tv c.aH).2.1,U,sq,eO,ie];rfl
     have dX:H'.next<=dU.next:=by rw[aoW];exact s8.le
     rw[sq] at eZ;refine Ue (H:=eO C (eO T1 H0)) (H':=H') o1 m1.rel ⟨λl g1 g2=>m1.fresh l g1 Z ?_,Env.le_trans nd m1.le⟩ eZ gj λx b5 cX g1 g2=> ?_
     ·cases bg:hJ (fR listed) D H' l with
      |none=>rfl
      |some b=>have:=DL s8 bg;omega
     ·have m2:=m1.step g2 dX (λl b bg=>DL s8 bg);refine aT _ _ _ (c.next a6 be.size be.closed ax hw (gj.mono g2.le) e3 gk (by rw[ie];exact g1) (T1:=T1++C++[t]) (T2:=D) ⟨by rw[U];simp,λu hu yd=> ?_,λu hu Ax=> ?_,?_⟩) LP
      ·by_cases e:u.i=t.i
       ·rw[e];exact qj
       ·rw[pe _ e];simp only[List.mem_append,List.mem_singleton] at hu;rcases hu with(hu|hu)|rfl
        ·exact bc u hu yd
        ·exact tx be.closed _ _ bs hw _ (Ty u (by simp[hu]) yd)
        ·exact absurd rfl e
      ·rw[pe _ (Ne.symm (c.after U hu).1)];exact dm u (by rw[r6];simp[hu]) Ax
      ·have Ol:eO (T1++C++[t]) H0=H':=by rw[sq,eO,ie];rfl
       rw[Ol,Du (L':=fR listed) λu hu v b ah=>pe _ (Ne.symm (c.after U hu).1)];exact m2
    ·rw[C4] at af;cases af
  ·rw[C4];simp only[Bool.false_eq_true,if_false];exact still (by rw[ah];rfl) undef (by rw[ah];exact .tuple [] [] .nil)
theorem agr{id:Nat}{a:Act}{w:World}(hm:P.follows .mixedOrders=true)(o1:rB E P call)(c:Ctx P call ops ord iq H0 T fb dU)(ce:Rel ρ0 H0 w)(ak:ov E ρ0 H0.next dU.next)(a7:hp ρ0 iq a)
  (eH: ∀ρ a b5,hp ρ fb a->Step ρ0 H0 w ρ dU b5->Q .normal a b5):(Code.region id ops true).wp P Q a w:=by
 have HK: ∀j,fR (Array.replicate ops.size false) j=false:=λj=>by
  unfold fR;rw[Array.getD_eq_getD_getElem?];by_cases h:j<ops.size<;>simp[h]
 refine wp_region_any hm (c.any (ρ0:=ρ0) (w0:=w.drew) o1 ak.le (λρ a b5 U aa=>eH ρ a b5 U ?_) _ _ _ _ ⟨by simp,λi o _ ax=>absurd ax (by rw[HK];simp),ρ0,[],T,rfl,by simp,λt _ _=>HK _,?_,iq,a7,rfl,λd=> ?_⟩ ?_)
 ·exact⟨aa.le,aa.next,aa.bo,aa.rel,aa.os,aa.tape,aa.output,aa.size,aa.frame,aa.own,aa.ro⟩
 ·have bA:hJ (fR (Array.replicate ops.size false)) T (eO [] H0)=λ_=>none:=by
   have: ∀(T:List dM) (H:J),hJ (fR (Array.replicate ops.size false)) T H=λ_=>none:=by
    intro T
    induction T with
    |nil=>intro H;rfl
    |cons t T aT=>
     intro H
     funext l
     unfold hJ;split
     ·rw[aT,HK];simp
     ·rw[aT]
   exact this T _
  rw[bA];exact jB.start ce.drew ak.new
 ·rw[Gp λt _ _=>HK _]
 ·refine Nat.le_trans List.countP_le_length ?_;simp
end
end
end Go.f7
