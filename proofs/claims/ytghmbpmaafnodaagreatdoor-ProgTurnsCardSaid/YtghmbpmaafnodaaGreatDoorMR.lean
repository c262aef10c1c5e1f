/- Part. -/
import Derived.Test.YtghmbpmaafnodaaGreatDoorMO
set_option linter.defProp false
open Option renaming some→I,none→u
open Bool renaming true→Y,false→X,false_and→gh,and_false→hi,and_eq_true→lm,true_and→pq,and_self→rs,not_false→EF,not_true→IJ,true_or→QR,false_eq_true→XY,or_true→YZ,false_or→Qaf
open Go.bk.aa renaming int→J,str→Z
open Go.IntKind renaming i64→U
open List renaming length_cons→cd,length_nil→de,length_append→ef,take_of_length_le→ij,length_eq_zero_iff→jk,getElem?_eq_getElem→kl,cons_append→mn,append_assoc→tu,mem_cons_of_mem→uv,drop_eq_getElem_cons→wx,all_cons→xy,append_nil→yz,nil_append→zA,mem_cons_self→AB,all_nil→BC,drop_eq_nil_of_le→CD,length_map→DE,replicate→FG,map_nil→GH,map_cons→HI,take→JK,replicate_succ→KL,take_succ_cons→MN,drop_drop→NO,length_drop→OP,getElem_mem→PQ,map_append→RS,sizeOf_lt_of_mem→TU,length_replicate→UV,drop_zero→VW,mem_cons→WX,not_mem_nil→Qaa,all_eq_true→Qab,mem_append→Qac,take_zero→Qad,mem_range→Qae,range→Qaj,map→Qal
open Nat renaming reduceAdd→fg,reduceLeDiff→vw,zero_add→Qag,add_zero→Qah
open Int renaming lt_irrefl→LM,le_refl→Qai,toNat→Qak
namespace Go.Proofs.YtghmbpmaafnodaaGreatDoor.fq
open Go.bk
def I5{H:ad}(s:ay)(c:UInt8):al P aj 66 [Z s,J .u8 c.toNat] H=I (J U (Lib.indexByte s c),H):=by
 refine vq ?_;show I (aa.int U (Lib.indexByte s (Qak (c.toNat:Int)).toUInt8),H)=_;have:(Qak (c.toNat:Int)).toUInt8=c:=by simp
 rw[this]
def Sp{H:ad}(s:ay):al P aj 66 [Z s,J .u8 10] H=I (J U (Lib.indexByte s 10),H):=I5 s 10
def Qm(c:UInt8):decide (0<=Lib.indexByte [32,9,10,13] c)=gi c:=by
 have h:∀n:Fin 256,decide (0<=Lib.indexByte [32,9,10,13] (UInt8.ofNat n.val))=gi (UInt8.ofNat n.val):=by decide+kernel
 have:=h ⟨c.toNat,c.toNat_lt⟩;simpa using this
def I4(s:ay):Lib.indexByte s 10= -1\/∃n:Nat,Lib.indexByte s 10=n/\n<s.length:=by
 induction s with
 |nil=>exact .inl rfl
 |cons b l a=>
  rw[Lib.indexByte];split
  ·exact .inr ⟨0,rfl,by simp⟩
  ·split
   ·exact .inl rfl
   ·rename_i h;rcases a with a|⟨n,e,c⟩
    ·rw[a]at h;exact absurd rfl h
    ·exact .inr ⟨n+1,ae,by simpa using c⟩
def FJ:∀(s:ay),(Lib.indexByte s 10= -1->o Y s=s.length)/\∀n:Nat,Lib.indexByte s 10=n->o Y s=n+o X (s.drop n)
 |[]=>⟨λ_=>rfl,λn h=>by simp[Lib.indexByte]at h⟩
 |b::l=>by
  obtain⟨ih1,ih2⟩:=FJ l;rw[Lib.indexByte,o];by_cases d:b=10
  ·subst d;simp only[beq_self_eq_true,if_true];refine⟨λh=>ae,λn h=> ?_⟩;obtain rfl:n=0:=ae;have a:(UInt8.toNat 10==10)=true:=rfl;have c:gi 10=true:=rfl;rw[VW,o,a,c];simp
  ·have a:(b==10)=false:=by simpa using d
   have c:(b.toNat==10)=false:=by
    have:b.toNat≠10:=λe=>d (UInt8.toNat_inj.1 (by rw[e];rfl))
    simpa using this
   rw[a,c];simp only[XY,if_false,aH];rcases I4 l with h|⟨k,h,j⟩
   ·rw[h];simp only[beq_self_eq_true,if_true];refine⟨λ_=> ?_,λn e=> ?_⟩
    ·rw[ih1 h,cd]
    ·exfalso;omega
   ·rw[h];have i:((k:Int)== -1)=false:=by simp
    rw[i];simp only[XY,if_false];refine⟨λe=>ae,λn e=> ?_⟩;obtain rfl:n=k+1:=ae;rw[ih2 k h,List.drop_succ_cons];omega
def Uv(c:UInt8)(r:ay):preB (c::r) [47,47]=(c==47&&r.head?==I 47):=by
 cases r with
 |nil=>simp[preB]
 |cons d q=>
  simp only[preB,cd,de,MN,Qad,List.head?_cons];cases a:c==47<;>cases e:d==47<;>simp_all
def MX{s:ay}{a:Nat}(h:a<=s.length):ff P 9 (Z s) (I (J U (a:Int))) u u=I (Z (s.drop a)):=by
 have aE:dP (I (J U (a:Int))) 0 s.length=I a:=by simp[dP];omega
 have ap:dP u s.length s.length=I s.length:=rfl;simp only[ff,zg,ap,aE];rw[ij (by simp)]
def MY{s:ay}{b:Nat}(h:b<=s.length):ff P 9 (Z s) u (I (J U (b:Int))) u=I (Z (s.take b)):=by
 have ap:dP (I (J U (b:Int))) s.length s.length=I b:=by simp[dP];omega
 have aE:dP u 0 b=I 0:=rfl;simp only[ff,zg,ap,aE,VW,Nat.sub_zero]
def BU{H:ad}{s:ay}(au:s.length<=1000000000000000000)(N:Nat):∀(m:Nat) (rest:ay) (at_:Nat),s.drop at_=rest->at_<=s.length->rest.length<m->
  W (nO (al P aj) N m (Z s) (J U at_) H) λv H'=>v= J U ((at_+o X rest:Nat):Int)/\H'=H
 |0,_,_,_,_,k=>ae
 |m+1,[],at_,h,x,k=>by
  have:=drop_nil h;have e:¬((at_:Int)<(s.length:Int)):=ae;simp(disch:=try exact ah)only[nO,r2,uD,ai,e,decide_false];exact aD.2 ⟨by simp[o],rfl⟩
 |m+1,c::r,at_,h,x,k=>by
  obtain⟨ap,aE,bB,cc⟩:=drop_cons h;have e:((at_:Int)<(s.length:Int)):=ae;have w:=iC ap;have l:=MX (s:=s) (a:=at_) ae;rw[h]at l;have A:=Qm c;rw[o];simp only[cd]at k;simp(disch:=try exact ah)only[nO,uD,ai,e,decide_true,w,I5,i,aV,A];cases G:gi c with
  |true=>
   simp(disch:=try exact ah)only[aR,b8,ht];refine(BU (H:=H) au N m r (at_+1) aE ae ae).mono ?_;rintro v H' ⟨rfl,rfl⟩;have q:at_+1+o X r=at_+(o X r+1):=ae;exact⟨by rw[q],rfl⟩
  |false=>
   simp(disch:=try exact ah)only[aR,l];refine gP (DV _ _) ?_;rw[Uv];cases C:(c==47&&r.head?==I 47)with
   |false=>
    simp(disch:=try exact ah)only[aR];exact aD.2 ⟨by simp,rfl⟩
   |true=>
    have p:(c::r).head?=I 47:=by
     have:c=47:=by have:=(lm _ _▸C).1;exact eq_of_beq this
     rw[this];rfl
    have y:o Y (c::r)=o Y r+1:=by
     have:c=47:=by simpa using p
     subst this;rw[o];rfl
    rw[aK,<-y];obtain⟨aX,F⟩:=FJ (c::r);simp(disch:=try exact ah)only[aR,l,Sp,i,aV,decide_true];rcases I4 (c::r)with d|⟨n,d,B⟩
    ·have j:((-1:Int)<0):=ae;rw[d];simp(disch:=try exact ah)only[ai,j,decide_true];refine aD.2 ⟨?_,rfl⟩;rw[aX d];have:at_+(c::r).length=s.length:=by simp only[cd];omega
     rw[this]
    ·have j:¬((n:Int)<0):=ae;rw[d];have K:1<=n:=by
      rcases Nat.eq_zero_or_pos n with rfl|aU
      ·exfalso;have:c=47:=by simpa using p
       subst this;rw[Lib.indexByte]at d;rw[if_neg aC]at d;have:=Lib.indexByte_ge r 10;split at d
       ·omega
       ·rename_i E;have:Lib.indexByte r 10≠ -1:=by simpa using E
        omega
      ·exact aU
     have z:s.drop (at_+n)=(c::r).drop n:=by rw[<-NO,h]
     simp only[cd]at B;simp(disch:=try exact ah)only[ai,j,decide_false,j8];refine(BU (H:=H) au N m ((c::r).drop n) (at_+n) z ae (by simp;omega)).mono ?_;rintro v H' ⟨rfl,rfl⟩;rw[F n d,Nat.add_assoc];exact⟨rfl,rfl⟩
def Ln{H:ad}{s:ay}(au:s.length<=1000000000000000000){at_:Nat}(a:at_<=s.length):W (al P aj 46 [Z s,J U at_] H) λv H'=>v= J U ((at_+o X (s.drop at_):Nat):Int)/\H'=H:=by
 refine bt (λ_=>WP (s.length+1)) ?_;rw[yj];exact BU au (s.length+1) (s.length+1) (s.drop at_) at_ rfl a (by simp;omega)
def LI:∀(x:ay) (a:Nat),(∀c∈x,cu c=Y)->Lib.parseUint10 a x= .range\/∃e,Lib.parseUint10 a x= .ok e/\a<=e
 |[],a,_=> .inr ⟨a,rfl,aV _⟩
 |c::r,a,h=>by
  have i:=h c (by simp);simp only[cu,ib,lm,decide_eq_true_eq]at i;rw[Lib.parseUint10,if_pos ⟨ae,ae⟩];split
  ·exact .inl rfl
  ·split
   ·exact .inl rfl
   ·rcases LI r (a*10+(c.toNat-48)) (λd i=>h d (by simp[i]))with aU|⟨e,j,k⟩
    ·exact .inl aU
    ·exact .inr ⟨e,j,ae⟩
def LJ:∀(x:ay) (a:Nat),(∀c∈x,cu c=Y)->a<9223372036854775808->
  (∀v,fA a x=I v->∃e:Nat,Lib.parseUint10 a x= .ok e/\(e:Int)=v/\e<9223372036854775808)/\(fA a x=u->Lib.parseUint10 a x= .range\/∃e,Lib.parseUint10 a x= .ok e/\9223372036854775808<=e)
 |[],a,_,j=>⟨λv h=>by rw[fA]at h;cases h;exact⟨a,rfl,rfl,j⟩,λh=>by rw[fA]at h;cases h⟩
 |c::r,a,h,j=>by
  have i:=h c (by simp);simp only[cu,ib,lm,decide_eq_true_eq]at i;have l:∀d∈r,cu d=true:=λd i=>h d (by simp[i])
  have m:Lib.parseUint10 a (c::r)=if 1844674407370955162<=a then .range else if 18446744073709551616<=a*10+(c.toNat-48)then .range else Lib.parseUint10 (a*10+(c.toNat-48)) r:=by
   rw[Lib.parseUint10,if_pos ⟨ae,ae⟩]
  rw[fA,m];have ap:(10*(a:Int)+((c.toNat:Int)-48))=((a*10+(c.toNat-48):Nat):Int):=ae;by_cases k:(9223372036854775807-((c.toNat:Int)-48))/10<(a:Int)
  ·rw[if_pos k];refine⟨λv h=>(by cases h),λ_=> ?_⟩;split
   ·exact .inl rfl
   ·split
    ·exact .inl rfl
    ·rcases LI r (a*10+(c.toNat-48)) l with aU|⟨e,n,o⟩
     ·exact .inl aU
     ·exact .inr ⟨e,n,ae⟩
  ·rw[if_neg k,if_neg ae,if_neg ae,ap];exact LJ r (a*10+(c.toNat-48)) l ae
def P6{c:UInt8}{r:ay}(h:∀d∈c::r,cu d=Y):(∀v,fA 0 (c::r)=I v->Lib.atoiAll (c::r)= .ok v)/\(fA 0 (c::r)=u->Lib.atoiAll (c::r)= .range):=by
 have q:=h c (by simp);simp only[cu,ib,lm,decide_eq_true_eq]at q;have i:¬c.toNat=43:=ae;have j:¬c.toNat=45:=ae;obtain⟨aX,m⟩:=LJ (c::r) 0 h ae;have o:((0:Nat):Int)=0:=rfl;rw[o]at aX m;have k:Lib.parseMag (c::r)=Lib.parseUint10 0 (c::r):=by rw[Lib.parseMag,if_neg (by simp)]
 constructor
 ·intro v l;obtain⟨n,a,e,s⟩:=aX v l;have p:¬(9223372036854775808<=n):=ae;simp only[Lib.atoiAll,i,j,or_self,if_false,k,a,p,not_false_eq_true,false_and,and_false];rw[e]
 ·intro l;rcases m l with a|⟨n,a,e⟩
  ·simp only[Lib.atoiAll,i,j,or_self,if_false,k,a]
  ·simp only[Lib.atoiAll,i,or_self,if_false,k,a,j,not_false_eq_true,true_and];rw[if_pos e]
def P7{H:ad}(a:gd H){s:ay}(au:s.length<=281474976710656){v:Int}(h:Lib.atoiAll s= .ok v):al P aj 99 [Z s] H=I (.tuple [J U v,.nilIface],H):=by
 refine vq ?_;refine(if_pos ⟨au,a.err⟩).trans ?_;rw[h]
def P8{H:ad}(a:gd H){s:ay}(au:s.length<=281474976710656)(h:Lib.atoiAll s= .range):al P aj 99 [Z s] H=I (.tuple [J U (Lib.atoiSat s),.iface 152 (.ptr H.next 0 0)],H.push .dead):=by
 refine vq ?_;refine(if_pos ⟨au,a.err⟩).trans ?_;rw[h]
def TM:w P .neq 126 Y .nilIface .nilIface=I (.bool X):=M
def TL(l:Nat):w P .neq 126 Y (.iface 152 (.ptr l 0 0)) .nilIface=I (.bool Y):=M
def Mv:∀(s:ay),∀c∈s.take (runN Y s),cu c=Y
 |[],c,h=>by simp[runN]at h
 |b::r,c,h=>by
  rw[runN]at h;cases a:cu b with
  |false=>rw[a]at h;simp at h
  |true=>
   rw[a]at h;simp only[QR,aK,MN,WX]at h;rcases h with rfl|h
   ·exact a
   ·exact Mv r c h
def lZ(s:ay):Option (Int×ay×Int×Nat):=match fA 0 (s.take (runN Y s))with
 |none=>u
 |some v=>bif (decide (1<runN Y s)&&(s.headD 0).toNat==48)||(decide (runN Y s<s.length)&&cy ((s[runN Y s]?).getD 0))then u else I (2,[],v,runN Y s)
def TR{H:ad}(T:gd H){s:ay}(au:s.length<=281474976710656){c:UInt8}{r:ay}(n:s=c::r)(S:cu c=Y):W (al P aj 71 [Z s] H) λv H'=>v=ld 0 (lZ s)/\aw H H':=by
 refine bt (λ_=>Xd 0) ?_;have q:gd (H.push (.row X 4 [[J U 0,Z [],J U 0,J U 0]])):=T.av (aw.push _ _);have aa:=tP Y s;have ab:1<=runN Y s:=by rw[n];exact Ck Y c r (by simp[S])
 have M:=MY (s:=s) (b:=runN Y s) aa;have af:s[0]? =I c:=by rw[n];rfl
 have C:=vI af;have F:=Mv s;have G:s.headD 0=c:=by rw[n];rfl
 obtain⟨ds,z⟩:∃ds,s.take (runN Y s)=c::ds:=by
  rw[n]at ab ⊢;obtain⟨k,V⟩:∃k,runN Y (c::r)=k+1:=⟨runN Y (c::r)-1,ae⟩;rw[V];exact⟨_,rfl⟩
 rw[z]at F;obtain⟨aX,ak⟩:=P6 F;have K:(s.take (runN Y s)).length<=281474976710656:=by simp;omega
 simp(disch:=try exact ah)only[yF,fg,ai];refine gP (Bu (s:=s) ae Y) ?_;generalize O:H.push (.row X 4 [[J U 0,Z [],J U 0,J U 0]])=H1 at q ⊢;have B:aw (H.push (.row X 4 [[J U 0,Z [],J U 0,J U 0]])) H1:=by rw[O];exact .refl _
 have e:H1.get H.next=I (.row X 4 [[J U 0,Z [],J U 0,J U 0]]):=B.get (ad.a_ _ _)
 have am:=ad.aF e;have l:∀b,aw H (H1.set H.next b):=λb=>((aw.push _ _).trans B).bH (aV _) b
 cases j:fA 0 (s.take (runN Y s))with
 |none=>
  have p:=P8 q K (by rw[z]at j ⊢;exact ak j);simp(disch:=try exact ah)only[fg,ai,M,p,i,Nat.le_succ,decide_true,TL,e];have Q:lZ s=none:=by unfold lZ;rw[j]
  exact aD.2 ⟨by rw[Q];rfl,(((aw.push _ _).trans B).a1 _).bH (aV _) _⟩
 |some v=>
  have p:=P7 q K (by rw[z]at j ⊢;exact aX v j);simp(disch:=try exact ah)only[ai,M,p,i,aV,decide_true,TM];have y:decide ((1:Int)<((runN Y s:Nat):Int))=decide (1<runN Y s):=by
   by_cases h:1<runN Y s<;>simp[h]<;>omega
  have L:decide (((runN Y s:Nat):Int)<(s.length:Int))=decide (runN Y s<s.length):=by
   by_cases h:runN Y s<s.length<;>simp[h]<;>omega
  have E:(((c.toNat:Nat):Int)==48)=(c.toNat==48):=by
   cases h:c.toNat==48 with
   |true=>have:c.toNat=48:=eq_of_beq h;rw[this];rfl
   |false=>
    have:c.toNat≠48:=by simpa using h
    simp;omega
  have bad:((decide (1<runN Y s)&&(c.toNat==48))||(decide (runN Y s<s.length)&&cy ((s[runN Y s]?).getD 0)))=Y->lZ s=none:=by
   intro A;unfold lZ;rw[j];simp only[G,A,aK]
  have a:((decide (1<runN Y s)&&(c.toNat==48))||(decide (runN Y s<s.length)&&cy ((s[runN Y s]?).getD 0)))=X->lZ s=I (2,[],v,runN Y s):=by
   intro A;unfold lZ;rw[j];simp only[G,A,aH]
  have R:(decide (1<runN Y s)=Y/\(c.toNat==48)=Y)\/(decide (1<runN Y s)=Y/\(c.toNat==48)=X)\/decide (1<runN Y s)=false:=by
   cases decide (1<runN Y s)<;>cases c.toNat==48<;>simp
  rcases R with⟨bo,b3⟩|⟨bo,b3⟩|bo
  ·simp(disch:=try exact ah)only[fg,ai,y,bo,C,E,b3,e];exact aD.2 ⟨by rw[bad (by rw[bo,b3];rfl)];rfl,l _⟩
  ·rw[bo,b3]at bad a;simp(disch:=try exact ah)only[ai,y,bo,C,E,b3,L];cases N:decide (runN Y s<s.length)with
   |false=>
    rw[N]at a;simp(disch:=try exact ah)only[fg,ai,e];exact aD.2 ⟨by rw[a rfl];rfl,l _⟩
   |true=>
    rw[N]at bad a;have x:runN Y s<s.length:=of_decide_eq_true N;obtain⟨d,dk⟩:∃d,s[runN Y s]? =I d:=⟨_,kl x⟩;have o:=iC dk;rw[dk]at bad a;simp(disch:=try exact ah)only[ai,o];refine jJ (td _) ?_;have w:cy ((I d).getD 0)=gx (d.toNat:Int):=rfl;rw[w]at bad a;cases m:gx (d.toNat:Int)with
    |true=>
     rw[m]at bad;simp(disch:=try exact ah)only[fg,ai,e];exact aD.2 ⟨by rw[bad rfl];rfl,l _⟩
    |false=>
     rw[m]at a;simp(disch:=try exact ah)only[fg,ai,e];exact aD.2 ⟨by rw[a rfl];rfl,l _⟩
  ·rw[bo]at bad a;simp(disch:=try exact ah)only[ai,y,bo,L];cases N:decide (runN Y s<s.length)with
   |false=>
    rw[N]at a;simp(disch:=try exact ah)only[fg,ai,e];exact aD.2 ⟨by rw[a rfl];rfl,l _⟩
   |true=>
    rw[N]at bad a;have x:runN Y s<s.length:=of_decide_eq_true N;obtain⟨d,dk⟩:∃d,s[runN Y s]? =I d:=⟨_,kl x⟩;have o:=iC dk;rw[dk]at bad a;simp(disch:=try exact ah)only[ai,o];refine jJ (td _) ?_;have w:cy ((I d).getD 0)=gx (d.toNat:Int):=rfl;rw[w]at bad a;cases m:gx (d.toNat:Int)with
    |true=>
     rw[m]at bad;simp(disch:=try exact ah)only[fg,ai,e];exact aD.2 ⟨by rw[bad rfl];rfl,l _⟩
    |false=>
     rw[m]at a;simp(disch:=try exact ah)only[fg,ai,e];exact aD.2 ⟨by rw[a rfl];rfl,l _⟩
def q1(s:ay):Option (Int×ay×Int×Nat):=bif fB (s.take (runN X s))then I (3,s.take (runN X s),0,runN X s)else bif dJ (s.take (runN X s))then I (1,s.take (runN X s),0,runN X s)else u
def TD{H:ad}(n:gd H){s:ay}(au:s.length<=281474976710656):W (al P aj 69 [Z s] H) λv H'=>v=ld 0 (q1 s)/\aw H H':=by
 refine bt (λ_=>Xb 0) ?_;have j:gd (H.push (.row X 4 [[J U 0,Z [],J U 0,J U 0]])):=n.av (aw.push _ _);have o:=tP X s;have q:=MY (s:=s) (b:=runN X s) o;have p:(s.take (runN X s)).length<=1000000000000000000:=by simp;omega
 simp(disch:=try exact ah)only[yD,fg,ai];refine gP (Bu (s:=s) ae X) ?_;simp(disch:=try exact ah)only[ai,q];refine aA (Jq j _) ?_;rintro _ i ⟨rfl,a⟩;refine⟨a.1,?_⟩;have c:i.get H.next=I (.row X 4 [[J U 0,Z [],J U 0,J U 0]]):=a.get (ad.a_ _ _)
 have x:=ad.aF c;have w:∀b,aw H (i.set H.next b):=λb=>((aw.push _ _).trans a).bH (aV _) b
 cases e:fB (s.take (runN X s))with
 |true=>
  simp(disch:=try exact ah)only[fg,ai,c];exact aD.2 ⟨by rw[q1,e];rfl,w _⟩
 |false=>
  simp(disch:=try exact ah)only[aR];refine aA (SR (j.av a) p) ?_;rintro _ m ⟨rfl,h⟩;refine⟨h.1,?_⟩;have d:=h.get c;have y:=ad.aF d;have l:∀b,aw H (m.set H.next b):=λb=>(((aw.push _ _).trans a).trans h).bH (aV _) b
  cases k:dJ (s.take (runN X s))with
  |true=>
   simp(disch:=try exact ah)only[fg,ai,d];exact aD.2 ⟨by rw[q1,e,k];rfl,l _⟩
  |false=>
   simp(disch:=try exact ah)only[fg,ai,d];exact aD.2 ⟨by rw[q1,e,k];rfl,l _⟩
def ie(s:ay):List ay->Option (Int×ay×Int×Nat)
 |[]=>u
 |y::a=>bif preB s y then I (4,y,0,y.length)else ie s a
def HA(s:ay):∀(l m:List ay),ie s (l++m)=(ie s l).or (ie s m)
 |[],m=>rfl
 |y::a,m=>by
  rw[mn,ie,ie,HA s a m];cases preB s y<;>rfl
def HE(s:ay):∀(l:List ay),(∀y∈l,y.length=2)->ie s l=bif decide (2<=s.length)&&ez (s.take 2) l then I (4,s.take 2,0,2)else u
 |[],_=>by simp[ie,ez]
 |y::j,h=>by
  have d:=h y (by simp);rw[ie,ez,HE s j λz i=>h z (by simp[i]),preB,d];cases k:decide (2<=s.length)with
  |false=>simp
  |true=>
   have c:(s.take 2==y)=(y==s.take 2):=by
    cases aU:y==s.take 2 with
    |true=>rw[<-eq_of_beq aU];simp
    |false=>
     have:y≠s.take 2:=by simpa using aU
     simpa usingλe:s.take 2=y=>this e.symm
   rw[c];cases a:y==s.take 2 with
   |true=>rw[<-eq_of_beq a];simp
   |false=>simp
def HD(c:UInt8)(r:ay):∀(l:ay),ie (c::r) (l.map λy=>[y])=bif gQ c l then I (4,[c],0,1)else u
 |[]=>rfl
 |y::d=>by
  rw[HI,ie,gQ,HD c r d];have a:preB (c::r) [y]=(c.toNat==y.toNat):=by
   simp only[preB,cd,de,MN,Qad];cases h:c.toNat==y.toNat with
   |true=>
    have:c=y:=UInt8.toNat_inj.1 (eq_of_beq h);simp[this]
   |false=>
    have:c≠y:=by rintro rfl;simp at h
    simp[this]
  rw[a];cases h:c.toNat==y.toNat with
  |true=>
   have:c=y:=UInt8.toNat_inj.1 (eq_of_beq h);simp[this]
  |false=>simp
def aaS(c:UInt8)(r:ay):ie (c::r) mz=bif gl (c::r)==[]then u else I (4,gl (c::r),0,(gl (c::r)).length):=by
 have e:mz=gM++gz.map λy=>[y]:=rfl
 rw[e,HA,HE _ gM aC,HD];unfold gl;cases h:decide (2<=(c::r).length)&&ez ((c::r).take 2) gM with
 |true=>
  have a:2<=(c::r).length:=of_decide_eq_true ((lm _ _).mp h).1;cases r with
  |nil=>simp at a
  |cons d q=>rfl
 |false=>
  cases i:gQ c gz<;>simp[i]
def MM{H0 H:ad}{s:ay}{L:Nat}(N:Nat)(all:List ay)(l:all.length<=1000)(j:H.get L=I (.row X 1 (all.map λy=>[aa.str y])))(c:H.get H0.next=I (.row X 4 [[J U 0,Z [],J U 0,J U 0]]))(h:∀b,aw H0 (H.set H0.next b)):
  ∀(rest pre:List ay),all=pre++rest->∀(m:Nat),rest.length<m->
  W (nP (al P aj) N m (Z s) (.ptr H0.next 0 0) (.ax L 0 all.length 1 (I all.length)) (J U all.length) (J U pre.length) H) λv H'=>v=ld 0 (ie s rest)/\aw H0 H'
 |_,_,_,0,e=>ae
 |[],pre,a,m+1,e=>by
  have d:¬((pre.length:Int)<(all.length:Int)):=by rw[a];simp
  have jQ:=ad.aF c;simp(disch:=try exact ah)only[nP,r3,uE,fg,ai,d,decide_false,c];exact aD.2 ⟨rfl,h _⟩
 |y::q,pre,a,m+1,e=>by
  have d:((pre.length:Int)<(all.length:Int)):=by rw[a];simp;omega
  have w:(0:Int)<=(pre.length:Int):=ae;have ap:((pre.length:Int)).toNat=pre.length:=ae;have x:pre.length<all.length:=ae;have n:(all.map λy=>[aa.str y])[pre.length]? =I [aa.str y]:=by rw[a];simp
  have o:((pre++[y]).length:Int)=((pre.length+1:Nat):Int):=by simp
  have jQ:=ad.aF c;simp(disch:=try exact ah)only[nP,uE,ai,d,decide_true,j,ap,n];refine gP (DV s y) ?_;cases i:preB s y with
  |true=>
   simp(disch:=try exact ah)only[fg,ai,c];exact aD.2 ⟨by rw[ie,i];rfl,h _⟩
  |false=>
   have k:=MM (s:=s) N all l j c h q (pre++[y]) (by simp[a]) m (by simp at e;omega);rw[o]at k;simp(disch:=try exact ah)only[aR,b8,ht];refine k.mono ?_;rintro v H' ⟨rfl,p⟩;exact⟨by rw[ie,i];rfl,p⟩
def Td{H:ad}(A:gd H){s:ay}(au:s.length<=281474976710656){c:UInt8}{r:ay}(h:s=c::r):W (al P aj 47 [Z s] H) λv H'=>v=ld 0 (e_ s)/\aw H H':=by
 refine bt (λ_=>WQ 24) ?_;have o:gd (H.push (.row X 4 [[J U 0,Z [],J U 0,J U 0]])):=A.av (aw.push _ _);have y:=vI (s:=s) (b:=c) (by rw[h];rfl);have p:cy c=gx (c.toNat:Int):=rfl;have n:cu c=ib (c.toNat:Int):=rfl;have put:∀{j:ad} (x:Option (Int×ay×Int×Nat)),aw (H.push (.row X 4 [[J U 0,Z [],J U 0,J U 0]])) j->∃a b k m,ld 0 x= .tuple [.agg [J U a,Z b,J U k,J U 0],J U m]:=λx _=>by
  cases x with
  |none=>exact⟨0,[],0,0,rfl⟩
  |some q=>exact⟨q.1,q.2.1,q.2.2.1,q.2.2.2,rfl⟩
 simp(disch:=try exact ah)only[yk,fg,ai,y];refine gP (td _) ?_;cases ak:gx (c.toNat:Int)with
 |true=>
  have i:e_ s=q1 s:=by rw[h,e_,p,ak];rfl
  rw[i];simp(disch:=try exact ah)only[aR];refine aA (TD o au) ?_;rintro _ j ⟨rfl,d⟩;refine⟨d.1,?_⟩;have e:=d.get (ad.a_ H (.row X 4 [[J U 0,Z [],J U 0,J U 0]]));have z:=ad.aF e;obtain⟨a,b,k,m,w⟩:=put (q1 s) d;rw[w];simp(disch:=try exact ah)only[fg,ai,e];exact aD.2 ⟨rfl,((aw.push _ _).trans d).bH (aV _) _⟩
 |false=>
  simp(disch:=try exact ah)only[aR,y];refine gP (A7 _) ?_;cases l:ib (c.toNat:Int)with
  |true=>
   have i:e_ s=lZ s:=by
    rw[h,e_,p,ak,n,l];rfl
   rw[i];simp(disch:=try exact ah)only[aR];refine aA (TR o au h (by rw[n,l])) ?_;rintro _ j ⟨rfl,d⟩;refine⟨d.1,?_⟩;have e:=d.get (ad.a_ H (.row X 4 [[J U 0,Z [],J U 0,J U 0]]));have z:=ad.aF e;obtain⟨a,b,k,m,w⟩:=put (lZ s) d;rw[w];simp(disch:=try exact ah)only[fg,ai,e];exact aD.2 ⟨rfl,((aw.push _ _).trans d).bH (aV _) _⟩
  |false=>
   have i:e_ s=ie s mz:=by
    rw[h,aaS,e_,p,ak,n,l];rfl
   rw[i];simp(disch:=try exact ah)only[aR];refine aA (Tf o) ?_;rintro _ _ ⟨rfl,rfl⟩;refine⟨(aw.push _ _).1,?_⟩;simp(disch:=try exact ah)only[bU,cX,bU];refine MM (H0:=H) 24 mz aC (ad.a_ _ _) ?_ (λb=>((aw.push _ _).a1 _).bH (aV _) b) mz [] rfl 24 aC;simp(disch:=try exact ah)only[b7]
def Kk{H0:ad}(Q:gd H0){s:ay}(au:s.length<=6000)(N:Nat):∀(n:Nat) (rest:ay) (at_ m:Nat) (T:List Tok) (v:aa) (H:ad),s.drop at_=rest->at_<=s.length->lF (H0.push (.row X 2 [[J U 0,J U 0]])) H v T->aw (H0.push (.row X 2 [[J U 0,J U 0]])) H->T.length<=at_->rest.length<n->rest.length<m->
  W (nF (al P aj) N m (Z s) (.ptr H0.next 0 0) v (J U at_) H) (u_ H0 (jY T (e5 n rest at_)))
 |0,_,_,_,_,_,_,_,_,_,_,_,C,_=>ae
 |_,_,_,0,_,_,_,_,_,_,_,_,_,B=>ae
 |n+1,[],at_,m+1,T,v,H,h,an,j,p,ar,C,B=>by
  have aT:=drop_nil h;have A:¬((at_:Int)<(s.length:Int)):=ae;have ao:s.length=at_:=ae;have g:H.get H0.next=I (.row X 2 [[J U 0,J U 0]]):=p.get (ad.a_ _ _)
  have jQ:=ad.aF g;obtain⟨G,H',i,x,E,S,R⟩:=vj j p ae ⟨0,[],0,s.length⟩;have d:=y6 H.next ⟨0,[],0,s.length⟩
  simp only[Tok.v]at d;simp(disch:=try exact ah)only[nF,rJ,um,fg,ai,A,decide_false,d,i,gF];have g':H'.get H0.next=I (.row X 2 [[J U 0,J U 0]]):=by
   rw[R _ jQ ?_];exact g;intro e O;rcases j with⟨rfl,_⟩|⟨l,rfl,ak,_⟩
   ·cases O
   ·cases O;simp only[ad.bb]at ak;omega
  have aQ:=ad.aF g';have V:aZ (I (.agg [J U 0,J U 0])) (.agg [J U 0,J U 0])=true:=by simp[aZ,aa.beq,fK.beq]
  simp(disch:=try exact ah)only[ai,g'];have aK:aw H0 H':=(aw.push _ _).trans E;have aL:aw H0 (H'.set H0.next (.row X 2 [[J U 0,J U 0]])):=aK.bH (aV _) _;refine aD.2 ⟨G,rfl,?_,aL⟩;rw[e5];simp only[jY];rw[ao]at x;exact x.tok.aP λl ro els e=>by
   rw[ad.get_set_other];exact e;rintro rfl;rw[g']at e;cases e
 |n+1,c::r,at_,m+1,T,v,H,h,an,j,p,ar,C,B=>by
  obtain⟨ap,aE,bB,cc⟩:=drop_cons h;have A:((at_:Int)<(s.length:Int)):=ae;have g:H.get H0.next=I (.row X 2 [[J U 0,J U 0]]):=p.get (ad.a_ _ _)
  have jQ:=ad.aF g;simp(disch:=try exact ah)only[nF,um,ai,A,decide_true];have aH:gd H:=(Q.av (aw.push _ _)).av p;have ab:=MX (s:=s) (a:=at_) ae;rw[h]at ab;simp(disch:=try exact ah)only[aR,ab];refine aA (Td aH (s:=c::r) (by simp only[cd];omega) rfl) ?_;rintro _ K ⟨rfl,y⟩;refine⟨y.1,?_⟩;have L:=y.get g;have aS:=ad.aF L;have az:=j.av y;replace p:=p.trans y;rw[e5];cases aI:e_ (c::r)with
  |none=>
   simp only[ld];simp(disch:=try exact ah)only[fg,ai,beq_self_eq_true,L,ad.gU];have V:aZ (I (.agg [J U 1,J U at_])) (.agg [J U 1,J U at_])=true:=by simp[aZ,aa.beq,fK.beq]
   refine aD.2 ⟨.ag,rfl,.inl ⟨rfl,rfl⟩,?_⟩;exact(((aw.push _ _).trans p).bH (aV _) _).a1 _
  |some q=>
   obtain⟨k,t,z,b⟩:=q;obtain⟨bf,bo⟩:=BI aI;have aq:((b:Int)==0)=false:=by simp;omega
   simp only[ld];simp only[cd]at bo C B;obtain⟨G,H',i,x,E,S,R⟩:=vj (az.av (aw.push K (.row X 4 [Tok.cells ⟨k,t,z,at_⟩]))) (p.a1 _) ae ⟨k,t,z,at_⟩;have d:=y6 (K.next+1) ⟨k,t,z,at_⟩;simp only[Tok.v]at d;simp only[Tok.cells,ad.bb]at i S;simp only[Tok.cells]at d;have V:∀aO:ad,aZ (I (.agg [J U k,Z t,J U z,J U at_])) (.agg [J U k,Z t,J U z,J U at_])=true:=λ_=>by simp[aZ,aa.beq,fK.beq]
   simp(disch:=try exact ah)only[fg,ai,aq,d,i,gF,j8];have M:s.drop (at_+b)=(c::r).drop b:=by rw[<-NO,h]
   have aB:=mX ((c::r).drop b) X;simp only[OP,cd]at aB;refine gP (Ln ae (at_:=at_+b) ae) ?_;rw[M];have aC:at_+b+o X ((c::r).drop b)<=s.length:=ae;have aJ:=Kk Q au N n (s.drop (at_+b+o X ((c::r).drop b))) (at_+b+o X ((c::r).drop b)) m (T++[⟨k,t,z,at_⟩]) G H' rfl aC x E (by simp;omega) (by simp;omega) (by simp;omega);refine aJ.mono ?_;rintro w aN ⟨af,aX,F,aM⟩;have aG:s.drop (at_+b+o X ((c::r).drop b))=((c::r).drop b).drop (o X ((c::r).drop b)):=by rw[<-NO,M]
   rw[aG]at aX F;have am:jY (T++[⟨k,t,z,at_⟩]) (e5 n (((c::r).drop b).drop (o X ((c::r).drop b))) (at_+b+o X ((c::r).drop b)))=jY T (match e5 n (((c::r).drop b).drop (o X ((c::r).drop b))) (at_+b+o X ((c::r).drop b))with
     | .inl e=> .inl e
     | .inr l=> .inr (⟨k,t,z,at_⟩::l)):=by
    cases e5 n (((c::r).drop b).drop (o X ((c::r).drop b))) (at_+b+o X ((c::r).drop b))with
    |inl e=>rfl
    |inr l=>simp[jY]
   rw[am]at aX F;exact⟨af,aX,F,aM⟩
def SS{H:ad}(i:gd H)(s:ay):W (al P aj 16 [Z s] H) (u_ H (c7 s)):=by
 refine bt (λ_=>V2 (s.length+1)) ?_;by_cases c:(6000:Int)<(s.length:Int)
 ·have a:6000<s.length:=ae;simp only[uj,fg,ai,c,decide_true];refine aD.2 ⟨.ag,by simp[c7,a],.inl ⟨rfl,by simp[c7,a]⟩,aw.push _ _⟩
 ·have a:¬6000<s.length:=ae;simp only[uj,fg,ai,c,decide_false];refine gP (Ln (s:=s) ae (at_:=0) ae) ?_;simp only[VW,Qag];have h:=mX s X;refine(Kk (H0:=H) i ae (s.length+1) (s.length+1) (s.drop (o X s)) (o X s) (s.length+1) [] .ag _ rfl h (.inl ⟨rfl,rfl⟩) (.refl _) (by simp) (by simp;omega) (by simp;omega)).mono ?_;rintro v H' ⟨af,aX,d,j⟩;have e:jY [] (e5 (s.length+1) (s.drop (o X s)) (o X s))=c7 s:=by
   simp only[c7,if_neg a,oN];cases e5 (s.length+1) (s.drop (o X s)) (o X s)<;>rfl
  rw[e]at aX d;exact⟨af,aX,d,j⟩
end Go.Proofs.YtghmbpmaafnodaaGreatDoor.fq
namespace Go.Proofs.YtghmbpmaafnodaaGreatDoor
open Go.bk
def JN:∀(n:Nat) (rest:ay) (p:Nat) (l:List Tok),e5 n rest p= .inr l->l.length<=rest.length+1
 |0,_,_,_,h=>by simp[e5]at h
 |n+1,[],p,l,h=>by simp[e5]at h;subst h;simp
 |n+1,c::r,p,l,h=>by
  rw[e5]at h;cases a:e_ (c::r)with
  |none=>rw[a]at h;simp at h
  |some q=>
   obtain⟨k,t,z,b⟩:=q;obtain⟨bf,bo⟩:=BI a;rw[a]at h;simp only at h;cases ak:e5 n (((c::r).drop b).drop (o X ((c::r).drop b))) (p+b+o X ((c::r).drop b))with
   |inl e=>rw[ak]at h;cases h
   |inr l'=>
    rw[ak]at h;cases h;have:=JN n _ _ l' ak;simp only[OP,cd]at this bo ⊢;omega
def Dw(s:ay):(c7 s).1.length<=s.length+1:=by
 unfold c7;split
 ·simp
 ·cases h:oN s with
  |inl e=>simp
  |inr l=>
   have:=JN _ _ _ l h;simp only[OP]at this;simp only
   omega
def JM:∀(n:Nat) (s:ay) (p:Nat) (l:List Tok),e5 n s p= .inr l->∃L q,l=L++[⟨0,[],0,q⟩]
 |0,_,_,_,h=>by cases h
 |n+1,[],p,l,h=>by cases h;exact⟨[],_,rfl⟩
 |n+1,c::r,p,l,h=>by
  rw[e5]at h;split at h
  ·cases h
  ·rename_i k t v m a;split at h
   ·cases h
   ·rename_i l' ak;cases h;obtain⟨L,q,rfl⟩:=JM n _ _ _ ak;exact⟨⟨k,t,v,p⟩::L,q,rfl⟩
def zc{s:ay}(h:(c7 s).2.1=0):eh (c7 s).1/\1<=(c7 s).1.length:=by
 have ak:=Dw s;have d:= @NP s;have m:s.length<=6000:=by
  unfold c7 at h;split at h
  ·simp at h
  ·omega
 obtain⟨L,q,e⟩:∃L q,(c7 s).1=L++[⟨0,[],0,q⟩]:=by
  unfold c7 at h ⊢;rw[if_neg ae]at h ⊢;cases i:oN s with
  |inl e=>rw[i]at h;simp at h
  |inr l=>exact JM _ _ _ _ i
 rw[e]at ak d ⊢;simp only[ef,cd,de]at ak ⊢;refine⟨⟨by simp;omega,by simp;omega,λa c=> ?_,d⟩,ae⟩;have k:=Dv c;simp only[ef,cd,de]at k ⊢;by_cases n:a<L.length
 ·omega
 ·exfalso;have j:a.toNat=L.length:=ae;apply c;unfold G;rw[if_neg (by simp;omega),j,List.getElem?_append_right (aV _),Nat.sub_self];rfl
def h2(T:List Tok)(N:Nat):Nat->bw->am->V bw
 |0,_,_=>u
 |n+1,g,s=>bif s.an==0&&(G T s.at_).kind != 0 then
  (bif a8 T s 3 [114,101,99,111,114,100]then(nj T N g s).bind λp=>h2 T N n p.1 p.2
  else bif a8 T s 3 [103,108,111,98,97,108]then h2 T N n (gJ T g s).1 (gJ T g s).2
  else bif a8 T s 3 [102,117,110,99]then(m5 T N g s).bind λp=>h2 T N n p.1 p.2
  else h2 T N n g (bx T 2 s))
  else I (g,s)
section
variable {H H' H1:ad}{r:Nat}{T:List Tok}{af rv gv fv:aa}{s s':am}
def L6{n:Nat}{g g':bw}(h:nj T n g s=I (g',s')):g'.bJ.length=g.bJ.length+1/\g'.globals.length=g.globals.length/\g'.funcs.length=g.funcs.length:=by
 obtain⟨p,-,a⟩:=ew h;cases a;simp
def IX{n:Nat}{g g':bw}(h:m5 T n g s=I (g',s')):g'.bJ.length=g.bJ.length/\g'.globals.length=g.globals.length/\g'.funcs.length<=g.funcs.length+1:=by
 obtain⟨p,-,c⟩:=ew h;simp only[aT]at c;have a:=congrArg Prod.fst c;unfold ih at a;split at a
 ·simp only at a;rw[<-a];simp
 ·simp only at a;rw[<-a];simp
def tI{N:Nat}(ar:eh T){Q:aa->ad->Prop}{aB aD:aa}{g':bw}
  (c:∀H,j_ r H1 H->hO H r T af g' s'->W (p3 (al P aj) N aB aD (.ptr r 0 0) H) Q) (M:Nat) (k:M<=800000000):
  ∀(n m:Nat) (H:ad) (s:am) (g:bw),n<m->g.bJ.length+n<=900000000->g.globals.length+n<=900000000->g.funcs.length+n<=900000000->j_ r H1 H->hO H r T af g s->h2 T M n g s=I (g',s')->W (p4 (al P aj) N m aB aD (.ptr r 0 0) H) Q
 |_,0,_,_,_,aM,_,_,_,_,_,_=>ae
 |0,m+1,_,_,_,_,_,_,_,_,_,a=>by cases a
 |n+1,m+1,H,s,g,aM,aY,aZ,dt,i,h,a=>by
  rw[h2]at a;rw[p4];unfold yX;obtain⟨rv,gv,fv,aU,aW,aX,E,aq,bf,bo,b3,aQ,c2,c3⟩:=id h;refine aA (o1 E) ?_;rintro _ aF ⟨rfl,rfl⟩;refine⟨aV _,?_⟩;by_cases q:s.an=0
  ·have y:(s.an != 0)=false:=by simpa using q
   have z:(s.an==0)=true:=by simpa using q
   rw[z,pq]at a;simp only[aR,y,EF];refine dZ (rl E) ?_;rintro _ aS ⟨rfl,o⟩;refine⟨o.1,?_⟩;have au:=E.av o;have aP:∀{V:ad},aw aF V->hO V r T af g s:=λp=>hO.mut aq bf bo b3 aQ c2 c3 (p.mut _) (E.av p)
   cases l:((G T s.at_).kind != 0)with
   |false=>
    rw[l,aH]at a;cases a;simp only[aR,b8,cX,Tok.v,l];exact c _ (i.trans (o.mut _)) (aP o)
   |true=>
    rw[l,aK]at a;have A:(G T s.at_).kind≠0:=by simpa using l
    simp only[aR,b8,cX,Tok.v,l];refine aA (re au 3 _) ?_;rintro _ aT ⟨rfl,F⟩;refine⟨F.1,?_⟩;have ay:=au.av F;have B:=o.trans F;cases ai:a8 T s 3 [114,101,99,111,114,100]with
    |true=>
     rw[ai,aK]at a;obtain⟨⟨x,O⟩,ap,aE⟩:=ew a;have aL:=L6 ap;simp only[aR];refine aA (Uw ar ae (aP B) ae A ap) ?_;rintro _ R ⟨ak,aG⟩;exact⟨ak.1,tI ar c M k n m R O x ae ae ae ae ((i.trans (B.mut _)).trans ak) aG aE⟩
    |false=>
     rw[ai,aH]at a;simp only[aR];refine aA (re ay 3 _) ?_;rintro _ R ⟨rfl,K⟩;refine⟨K.1,?_⟩;have az:=ay.av K;have C:=B.trans K;cases ah:a8 T s 3 [103,108,111,98,97,108]with
     |true=>
      rw[ah,aK]at a;simp only[aR];refine aA (Um ar (aP C) ae A) ?_;rintro _ S ⟨ao,aI⟩;exact⟨ao.1,tI ar c M k n m S _ _ ae (by simp only[gJ];omega) (by simp only[gJ,ef,cd,de];omega) (by simp only[gJ];omega) ((i.trans (C.mut _)).trans ao) aI a⟩
     |false=>
      rw[ah,aH]at a;simp only[aR];refine aA (re az 3 _) ?_;rintro _ S ⟨rfl,L⟩;refine⟨L.1,?_⟩;have aN:=az.av L;have j:=C.trans L;cases ab:a8 T s 3 [102,117,110,99]with
      |true=>
       rw[ab,aK]at a;obtain⟨⟨x,O⟩,ap,aE⟩:=ew a;have aL:=IX ap;simp only[aR];refine aA (Uj ar k (aP j) ae A ap) ?_;rintro _ w ⟨d,aJ⟩;exact⟨d.1,tI ar c M k n m w O x ae ae ae ae ((i.trans (j.mut _)).trans d) aJ aE⟩
      |false=>
       rw[ab,aH]at a;simp only[aR];refine aA (wg aN (e:=2) aC) ?_;rintro _ w ⟨rfl,d,aO⟩;refine⟨d.1,tI ar c M k n m w _ g ae ae ae ae ((i.trans (j.mut _)).trans d.j0) ?_ a⟩;exact hO.mut aq (bf.aP (ce.av j)) (bo.aP (ce.av j)) (b3.aP (ce.av j)) aQ c2 c3 d aO
  ·have y:(s.an != 0)=true:=by simpa using q
   have z:(s.an==0)=false:=by simpa using q
   rw[z]at a;cases a;simp only[aR,y,IJ];exact c _ i h
end
def D7(H0:ad)(x:bw×Int×Int)(v:aa)(H':ad):Prop:=∃rv gv fv,v= .tuple [.agg [rv,gv,fv],.agg [J U x.2.1,J U x.2.2]]/\cf dq H' (aW H0.next) x.1.bJ rv/\cf cQ H' (aW H0.next) x.1.globals gv/\cf dh H' (aW H0.next) x.1.funcs fv/\aw H0 H'
def fb(s:ay)(g:bw)(s':am):bw×Int×Int:=if(c7 s).2.1=0 then lg g s' else(.none,(c7 s).2.1,(c7 s).2.2)
def Qg{af:aa}{T:List Tok}{H:ad}(h:eR H af T):bA P 55 [(0,af)]=I (.agg [af,J U 0,.ag,.ag,.ag,J U 0,J U 0]):=by
 rcases h with⟨rfl,_⟩|⟨l,i,cap,rfl,_⟩<;>kernel_rfl
def wv(a b:Int):aZ (I (.agg [J U a,J U b])) (.agg [J U a,J U b])=true:=by simp[aZ,aa.beq,fK.beq]
section
variable {H:ad}
def Ld(aJ:fq.gd H)(s:ay){g':bw}{s':am}{M n:Nat}(aG:M<=800000000)(a4:n<=800000000)(Q:(c7 s).2.1=0->h2 (c7 s).1 M n .none ⟨0,0,0,0⟩=I (g',s')):W (al P aj 8 [Z s] H) (D7 H (fb s g' s')):=by
 refine bt (λ_=>Xm (n+1)) ?_;have ab:=(aw.push H (.row X 3 [[.ag,.ag,.ag]])).a1 (.row X 2 [[J U 0,J U 0]]);simp(disch:=try exact ah)only[yN,aR,cd,de,Qag,fg];refine aA (fq.SS (aJ.av ab) s) ?_;rintro _ d ⟨af,rfl,R,a⟩;refine⟨a.1,?_⟩;have C:=a.get ((aw.push (H.push (.row X 3 [[.ag,.ag,.ag]])) (.row X 2 [[J U 0,J U 0]])).get (ad.a_ H (.row X 3 [[.ag,.ag,.ag]])));have w:=a.get (ad.a_ (H.push (.row X 3 [[.ag,.ag,.ag]])) (.row X 2 [[J U 0,J U 0]]));have aY:=a.1;simp only[ad.bb]at aY w;have S:= @zc s
 unfold fb;generalize c7 s=ba at R Q S ⊢;obtain⟨T,an,bl⟩:=ba;simp only at R Q S ⊢;have v:=aw.push d (.row X 2 [[J U an,J U bl]]);have gc:=ad.a_ d (.row X 2 [[J U an,J U bl]]);have F:=v.get C;have K:=v.get w;have aZ:(d.push (.row X 2 [[J U an,J U bl]])).next=d.next+1:=by simp only[ad.bb]
 have q:=(ab.trans a).trans v;have p:=R.av v;by_cases O:an=0
 ·subst O;have z0:((0:Int) != 0)=false:=rfl;simp(disch:=try exact ah)only[aR,A,bL,aB,bL,fg,aa.cells,cD,cw,b7,cX,b8,z0];generalize d.push (.row X 2 [[J U 0,J U bl]])=j at v gc F K aZ q p ⊢;obtain⟨ar,ak⟩:=S rfl;have aH:=Qg p;have aM:=p.one;have aI:∀l,cg l (.agg [af,J U 0,.ag,.ag,.ag,J U 0,J U 0])=I (.ptr l 0 0,.row X 7 [[af,J U 0,.ag,.ag,.ag,J U 0,J U 0]]):=λl=>ei l _ (by simp only[xy,BC,eO,q4,aM,rs])
  have B:=aw.push j (.row X 7 [[af,J U 0,.ag,.ag,.ag,J U 0,J U 0]]);have a3:hO (j.push (.row X 7 [[af,J U 0,.ag,.ag,.ag,J U 0,J U 0]])) j.next T af .none ⟨0,0,0,0⟩:=by
   refine⟨.ag,.ag,.ag,(λ_=>False),(λ_=>False),(λ_=>False),⟨ad.a_ _ _,p.av B,Qai _,by(try simp only);omega,ar.n,λ_=>rfl,rfl,rfl,rfl,rfl⟩,?_,c1.nil,c1.nil,c1.nil,λ_ h=>h.elim,λ_ h=>h.elim,λ_ h=>h.elim⟩;intro l i m e c ap;rcases p with⟨rfl,_⟩|⟨l',a5,cap,rfl,aK⟩
   ·cases ap
   ·cases ap;obtain⟨ro,els,aX,-⟩:=aK.resolve_left (by rintro rfl;simp at ak);exact ad.aF aX
  simp(disch:=try exact ah)only[aR,aH,aI];refine tI (H1:=j.push (.row X 7 [[af,J U 0,.ag,.ag,.ag,J U 0,J U 0]])) ar (λaz z aE=> ?_) M aG n (n+1) _ _ .none ae (by simp only[bw.none,de];omega) (by simp only[bw.none,de];omega) (by simp only[bw.none,de];omega) (bV.refl _ _) a3 (Q rfl);obtain⟨rv,gv,fv,aN,aO,aS,E,aq,bf,bo,b3,aQ,c2,c3⟩:=aE;have a0:=z.1;simp only[ad.bb]at a0;have G:=z.get (B.get F) ae;have L:=z.get (B.get K) ae;have y:=E.rd;unfold e0 at y;obtain⟨bI,b2,cM⟩:=E.one;have aT:=ad.aF G;have aU:=ad.aF L;have fF:=ad.aF y;have au:aw H az:=⟨by have:=q.1;omega,λl ak=>by
   have aC:=q.1;rw[z.2 l (by simp only[ad.bb];omega) ae,B.2 l ae];exact q.2 l ak⟩
  rw[p3];refine aA (o1 E) ?_;rintro _ ao ⟨rfl,rfl⟩;refine⟨aV _,?_⟩;unfold lg;by_cases x:s'.an=0
  ·have N:(s'.an != 0)=false:=by simpa using x
   simp(disch:=try exact ah)only[fg,vw,ai,N,y,G,L,bI,b2,cM];rw[if_pos x];have V:∀ok:Nat->Prop,(∀k,ok k->j.next<k)->ce ao ok ((ao.set H.next (.row X 3 [[rv,gv,fv]])).set (H.next+1) (.row X 2 [[J U 0,J U 0]])) (aW H.next):=λok o k b aL g=>by
    have:=o k aL;have aC:=q.1;exact⟨by unfold aW;omega,by rw[ad.get_set_other ae,ad.get_set_other ae];exact g⟩
   exact aD.2 ⟨rv,gv,fv,rfl,(bf.ax).aP (V aN λk o=>(aQ k o).1),(bo.ax).aP (V aO λk o=>(c2 k o).1),(b3.ax).aP (V aS c3),(au.bH (aV _) _).bH ae _⟩
  ·have N:(s'.an != 0)=true:=by simpa using x
   simp(disch:=try exact ah)only[fg,ai,N,y,G,L,wv];rw[if_neg x];exact aD.2 ⟨.ag,.ag,.ag,rfl,cf.nil,cf.nil,cf.nil,(au.bH (aV _) _).bH ae _⟩
 ·have z0:(an != 0)=true:=by simpa using O
  have a6:=ad.aF F;have a7:=ad.aF K;rw[if_neg O];have aT:=ad.aF C;have aU:=ad.aF w;have a2:=ab.trans a;simp(disch:=try exact ah)only[fg,ai,ad.gU,z0,C,w,wv];refine aD.2 ⟨.ag,.ag,.ag,rfl,cf.nil,cf.nil,cf.nil,?_⟩
  repeat (first|exact a2|refine aw.a1 ?_ _|refine aw.bH ?_ ae _)
end
section
set_option maxRecDepth 100000
noncomputable section
def nU(o:e)(F y:aa)(H:ad):O:=bO H (cg (H).next F) λa z=>bO z (cg (z).next y) λc p=>C (j P 98 a 0) λa0=>C (A P p 3 a0) λaJ=>C (j P 98 c 0) λa3=>C (A P p 3 a3) λa4=>C (w P .eql 3 X aJ a4) λn=>S n Y p (k (j P 98 a 1)) λav R=>S n Y R (qr (A P R 9 av)) λaw ap=>S n Y ap (k (j P 98 c 1)) λay V=>S n Y V (qr (A P V 9 ay)) λaz aq=>S n Y aq (k (w P .eql 9 X aw az)) λaA ar=>C (bC n (I aA) (I (.bool X))) λd=>S d Y ar (k (j P 98 a 2)) λaB W=>S d Y W (qr (A P W 43 aB)) λaC au=>S d Y au (k (j P 98 c 2)) λaD B=>S d Y B (qr (A P B 43 aD)) λaE ab=>S d Y ab (k (w P .eql 43 X aC aE)) λaF ae=>C (bC d (I aF) (I (.bool X))) λh=>S h Y ae (k (j P 98 a 7)) λaG E=>S h Y E (qr (A P E 3 aG)) λaH af=>S h Y af (k (j P 98 c 7)) λaI G=>S h Y G (qr (A P G 3 aI)) λaK ah=>S h Y ah (k (w P .eql 3 X aH aK)) λaL ai=>C (bC h (I aL) (I (.bool X))) λi=>S i Y ai (k (j P 98 a 3)) λaM K=>S i Y K (qr (A P K 96 aM)) λaN aj=>S i Y aj (k (j P 98 c 3)) λaO L=>S i Y L (qr (A P L 96 aO)) λaP s=>S i Y s (λq=>cZ s (o 86 [aN,aP] s) q) λaQ ak=>C (bC i (I aQ) (I (.bool X))) λl=>S l Y ak (k (j P 98 a 4)) λaR M=>S l Y M (qr (A P M 44 aR)) λaS al=>S l Y al (k (j P 98 c 4)) λaT N=>S l Y N (qr (A P N 44 aT)) λaU v=>S l Y v (λq=>cZ v (o 34 [aS,aU] v) q) λaV am=>C (bC l (I aV) (I (.bool X))) λm=>S m Y am (k (j P 98 a 5)) λaW Q=>S m Y Q (qr (A P Q 44 aW)) λaX an=>S m Y an (k (j P 98 c 5)) λaY T=>S m Y T (qr (A P T 44 aY)) λaZ x=>S m Y x (λq=>cZ x (o 34 [aX,aZ] x) q) λa1 ao=>C (bC m (I a1) (I (.bool X))) λa2=>I (a2,ao)
def W6(N:Nat){F y:aa}{H:ad}{r:aa×ad}(h:nU (al P aj) F y H=I r):al P aj 62 [F,y] H=I r:=bu N (S:=λa=>nU a F y H) Tryz.func62 (λ_=>by delta nU;kernel_rfl) h
def pJ(a:e)(N:Nat)(H:ad):O:=some ((.bool Y),H)
def Y8(a:e)(N:Nat):∀V H,a7 P a N (L (L (L (n Tryz.f34)))) (p Tryz.f34) [] (p Tryz.f34) V H=pJ a N H:=by
 refine bm (q _) λV H=> ?_
 delta pJ;kernel_rfl
def rT(c:e)(N:Nat)(h:aa->aa->aa->ad->O)(F y a:aa)(H:ad):O:=bU P .len [44] [F] H λj=>C (w P .lss 3 X a j) λk=>aO (I k) (C (bX P 44 F a) λm=>C (A P H 98 m) λn=>C (bX P 44 y a) λo=>C (A P H 98 o) λp=>i H (c 62 [n,p] H) λq d=>C (cI .not q) λs=>aO (I s) (I ((.bool X),d)) (C (w P .add 3 Y a (J U 1)) λl=>h F y l d)) (pJ c N H)
def mc(a:e)(N:Nat):Nat->aa->aa->aa->ad->O
 |0,_,_,_,_=>u
 |n+1,F,y,c,H=>rT a N (mc a N n) F y c H
def Y7(a:e)(N:Nat)(h:aa->aa->aa->ad->O):∀V H,a7 P a N (d (d (L (d (L (L (n Tryz.f34))))))) (λV H=>h (V 0) (V 1) (V 5) H) [(0,(λV H=>pJ a N H))] (p Tryz.f34) V H=rT a N h (V 0) (V 1) (V 5) H:=by
 refine bm (q _) λV H=> ?_
 delta rT;generalize pJ a N=c;revert c;refine id ?_;intro c;kernel_rfl
def rS(a:e)(N:Nat)(F y:aa)(H:ad):O:=bU P .len [44] [F] H λd=>bU P .len [44] [y] H λh=>C (w P .neq 3 X d h) λc=>aO (I c) (I ((.bool X),H)) (mc a N N F y (J U 0) H)
def WF(N:Nat){F y:aa}{H:ad}{r:aa×ad}(h:rS (al P aj) N F y H=I r):al P aj 34 [F,y] H=I r:=bu N (S:=λa=>rS a N F y H) Tryz.func34 (λa=>cG ((Q M ((Q M ((Q M (Y8 a N) ((Q M ((cn M ((cY (k:=λm V H=>mc a N m (V 0) (V 1) (V 5) H) M (λV H=>M) (λm=>Y7 a N (mc a N m)))))) (q _))))) (q _))) (q _))) (by delta rS;generalize mc a N N=c;revert c;refine id ?_;intro c;kernel_rfl)) h
end
end
mutual
def iZ:a6->a6->Bool
 | .mk a es b c,.mk bj es' cN c'=>a.kind==bj.kind&&(a.name==bj.name&&((a.b5==bj.b5&&a.ci==bj.ci)&&(a.ref==bj.ref&&(eX es es'&&(eB b cN&&eB c c')))))
def eB:List a6->List a6->Bool
 |[],[]=>Y
 |[],_::_=>X
 |_::_,[]=>X
 |e::es,f::a=>iZ e f&&eB es a
end
mutual
def gH(B:Nat):a6->Prop
 | .mk _ es b c=>(es.length<=B/\dF B es)/\(b.length<=B/\eE B b)/\(c.length<=B/\eE B c)
def eE(B:Nat):List a6->Prop
 |[]=>True
 |e::es=>gH B e/\eE B es
end
def C2:∀(es a:List a6),es.length≠a.length->eB es a=X
 |[],[],h=>absurd rfl h
 |[],_::_,_=>by rw[eB]
 |_::_,[],_=>by rw[eB]
 |e::es,f::a,h=>by rw[eB,C2 es a (by simpa using h),hi]
mutual
def aar:∀e:az,iY e e=Y
 | .mk a ks=>by rw[iY,C1 ks];simp
def C1:∀es:List az,eX es es=Y
 |[]=>by rw[eX]
 |e::es=>by rw[eX,aar e,C1 es];rfl
end
mutual
def aax:∀e:a6,iZ e e=Y
 | .mk a es b c=>by rw[iZ,y4 b,y4 c,C1 es];simp
def y4:∀es:List a6,eB es es=Y
 |[]=>by rw[eB]
 |e::es=>by rw[eB,aax e,y4 es];rfl
end
def a6.MP{a:bR}{es:List az}{b c:List a6}{e:a6}(h:e∈b):SizeOf.sizeOf e<SizeOf.sizeOf (a6.mk a es b c):=by
 have:=TU h;simp only[a6.mk.sizeOf_spec];omega
def a6.MQ{a:bR}{es:List az}{b c:List a6}{e:a6}(h:e∈c):SizeOf.sizeOf e<SizeOf.sizeOf (a6.mk a es b c):=by
 have:=TU h;simp only[a6.mk.sizeOf_spec];omega
def cj.av{H H':ad}{ok:Nat->Prop}{ks:List a6}{kv:aa}(h:cj H ok ks kv)(p:aw H H'):cj H' ok ks kv:=h.aP (dc.av p λ_ h=>h)
def fT.av{H H':ad}{ok:Nat->Prop}{e:a6}{v:aa}(h:fT H ok e v)(p:aw H H'):fT H' ok e v:=fT.aP (dc.av p λ_ h=>h) e v h
def dy.cons{H:ad}{ok:Nat->Prop}{e:a6}{es:List a6}{els:List (List aa)}{k:Nat}(h:dy H ok (e::es) (els.drop k)):∃cs,els[k]? =I cs/\fT H ok e (.agg cs)/\dy H ok es (els.drop (k+1)):=by
 cases a:els.drop k with
 |nil=>rw[a,dy]at h;exact h.elim
 |cons cs css=>
  rw[a,dy]at h;have c:els[k]? =I cs:=by
   have:=List.getElem?_drop (xs:=els) (i:=k) (j:=0);rw[a]at this;simpa using this.symm
  have d:els.drop (k+1)=css:=by
   have:(els.drop k).drop 1=css:=by rw[a];rfl
   rwa[NO]at this
  exact⟨cs,c,h.1,by rw[d];exact h.2⟩
def cj.jM{H:ad}{ok:Nat->Prop}{ks:List a6}{x:aa}(a:cj H ok ks x)(H':ad):bK P H' .len [44] [x]=I (J U ks.length):=by
 rcases a with⟨rfl,ap⟩|⟨d,c,aQ,h,e,rfl,_⟩|⟨d,c,aQ,rfl,ap⟩
 ·rw[ap];exact Bt
 ·exact vQ
 ·rw[ap];exact vQ
def cj.row{H:ad}{ok:Nat->Prop}{ks:List a6}{x:aa}(c:cj H ok ks x)(h:¬ks.length=0):∃l i cap ro els,x= .ax l i ks.length 9 (Option.map (· +ks.length) cap)/\ok l/\H.get l=I (.row ro 9 els)/\dy H ok ks (els.drop i):=by
 rcases c with⟨_,ap⟩|a|⟨_,_,_,_,ap⟩
 ·exact absurd ap h
 ·exact a
 ·exact absurd ap h
def kV(F:Nat)(B:Nat)(e:a6):Prop:=gH B e->∀(f:a6) (v w:aa) (H:ad) (ok ok':Nat->Prop),fT H ok e v->fT H ok' f w->W (al P aj F [v,w] H) λr H'=>r= .bool (iZ e f)/\aw H H'
def KH(m k:Nat)(h:m≠k):((m:Int) != (k:Int))=true:=by simp;omega
def KI(m:Nat):((m:Int) != (m:Int))=false:=by simp
def aav{H:ad}{a bj:bR}{es es':List az}{b cN c c':List a6}{ev k e h i j:aa}(B:ev.one=Y)(C:k.one=Y)(E:e.one=Y)(F:h.one=Y)(G:i.one=Y)(K:j.one=Y)
  (N:∀H',aw H H'->W (al P aj 86 [ev,k] H') λr q=>r= .bool (eX es es')/\aw H' q)
  (L:∀H',aw H H'->W (al P aj 34 [e,h] H') λr q=>r= .bool (eB b cN)/\aw H' q)
  (M:∀H',aw H H'->W (al P aj 34 [i,j] H') λr q=>r= .bool (eB c c')/\aw H' q):
  W (al P aj 62 [.agg (a.cells ev e i),.agg (bj.cells k h j)] H) λr H'=>r= .bool (iZ (.mk a es b c) (.mk bj es' cN c'))/\aw H H':=by
 refine bt (λ_=>W6 0) ?_;have n:∀l,cg l (.agg (a.cells ev e i))=I (.ptr l 0 0,.row X 9 [a.cells ev e i]):=λl=>ei l _ (by simp only[bR.cells,xy,BC,eO,fk,B,E,G,rs])
 have o:∀l,cg l (.agg (bj.cells k h j))=I (.ptr l 0 0,.row X 9 [bj.cells k h j]):=λl=>ei l _ (by simp only[bR.cells,xy,BC,eO,fk,C,F,K,rs])
 have d:=(aw.push H (.row X 9 [a.cells ev e i])).a1 (.row X 9 [bj.cells k h j]);have s:((H.push (.row X 9 [a.cells ev e i])).push (.row X 9 [bj.cells k h j])).get H.next=I (.row X 9 [a.cells ev e i]):=by simp(disch:=try exact ah)only[b7]
 have v:((H.push (.row X 9 [a.cells ev e i])).push (.row X 9 [bj.cells k h j])).get (H.next+1)=I (.row X 9 [bj.cells k h j]):=by simp(disch:=try exact ah)only[b7]
 rw[iZ];simp only[bR.cells]at n o d s v ⊢;cases c0:a.kind==bj.kind with
 |false=>
  simp(disch:=try exact ah)only[nU,ai,n,o,c0];exact aD.2 ⟨by simp only[gh],d⟩
 |true=>
 cases c2:a.name==bj.name with
 |false=>
  simp(disch:=try exact ah)only[nU,fg,ai,n,o,c0,c2];exact aD.2 ⟨by simp only[gh,hi],d⟩
 |true=>
 cases c3:(a.b5==bj.b5&&a.ci==bj.ci)with
 |false=>
  simp(disch:=try exact ah)only[nU,fg,vw,ai,n,o,hT,c0,c2,c3];exact aD.2 ⟨by simp only[gh,hi],d⟩
 |true=>
 cases c5:a.ref==bj.ref with
 |false=>
  simp(disch:=try exact ah)only[nU,fg,vw,ai,n,o,hT,c0,c2,c3,c5];exact aD.2 ⟨by simp only[gh,hi],d⟩
 |true=>
 simp(disch:=try exact ah)only[nU,fg,vw,ai,n,o,hT,c0,c2,c3,c5];refine dZ (N _ d) ?_;rintro _ O ⟨rfl,m⟩;refine⟨m.1,?_⟩;have w:=m.get s;have x:=m.get v;cases d1:eX es es' with
 |false=>
  simp(disch:=try exact ah)only[ai];exact aD.2 ⟨by simp only[gh,hi],d.trans m⟩
 |true=>
 simp(disch:=try exact ah)only[fg,ai,fI,w,x];refine dZ (L _ (d.trans m)) ?_;rintro _ Q ⟨rfl,p⟩;refine⟨p.1,?_⟩;have z:=p.get w;have A:=p.get x;cases d2:eB b cN with
 |false=>
  simp(disch:=try exact ah)only[ai];exact aD.2 ⟨by simp only[gh,hi],(d.trans m).trans p⟩
 |true=>
 simp(disch:=try exact ah)only[fg,ai,fI,z,A];refine dZ (M _ ((d.trans m).trans p)) ?_;rintro _ R ⟨rfl,y⟩;refine⟨y.1,?_⟩;simp(disch:=try exact ah)only[ai];exact aD.2 ⟨by simp only[pq],((d.trans m).trans p).trans y⟩
def Kg{N B:Nat}{K G O M:Nat}{kc lc:Option Nat}{ak am:Bool}{F L:List (List aa)}{ok ok':Nat->Prop}:∀(es m:List a6) (j a n:Nat) (H:ad),(∀e∈es,kV 62 B e)->eE B es->dy H ok es (F.drop (G+j))->dy H ok' m (L.drop (M+j))->es.length=m.length->a=j+es.length->a<=1000000000000->H.get K=I (.row ak 9 F)->H.get O=I (.row am 9 L)->es.length<n->
  W (mc (al P aj) N n (.ax K G a 9 kc) (.ax O M a 9 lc) (J U j) H) λr H'=>r= .bool (eB es m)/\aw H H'
 |_,_,_,_,0,_,_,_,_,_,_,_,_,_,_,p=>ae
 |[],[],j,a,n+1,H,au,l,s,w,d,o,x,i,k,p=>by
  have y:¬((j:Int)<(a:Int)):=by simp at o;omega
  simp(disch:=try exact ah)only[mc,pJ,rT,ai,y,decide_false];exact aD.2 ⟨by rw[eB],.refl _⟩
 |[],_::_,j,a,n+1,H,au,l,s,w,d,o,x,i,k,p=>by simp at d
 |_::_,[],j,a,n+1,H,au,l,s,w,d,o,x,i,k,p=>by simp at d
 |e::es,f::m,j,a,n+1,H,au,l,s,w,d,o,x,i,k,p=>by
  simp only[cd]at d o p;have y:(j:Int)<(a:Int):=ae;have ar:(0:Int)<=(j:Int):=ae;have aq:((j:Int)).toNat=j:=ae;obtain⟨cs,S,A,T⟩:=s.cons;obtain⟨z,V,C,g6⟩:=w.cons;obtain⟨_,aX,aB,aC⟩:=A.cells;cases aX;obtain⟨_,an,aE,aG⟩:=C.cells;cases an;have ao:JK 9 cs=cs:=ij ae;have ap:JK 9 z=z:=ij ae;have ay:=ad.aF i;have az:=ad.aF k;rw[eE]at l;have af:IntKind.i64.wrap ((j:Int)+1)=((j+1:Nat):Int):=by rw[wrap_i64 ae ae];omega
  simp(disch:=try exact ah)only[mc,rT,ai,fI,y,decide_true,aq,i,k,S,V,ao,ap];refine aA (au e (by simp) l.1 f _ _ _ ok ok' A C) ?_;rintro _ Q ⟨rfl,c⟩;refine⟨c.1,?_⟩;cases E:iZ e f with
  |false=>
   simp(disch:=try exact ah)only[aR,EF];exact aD.2 ⟨by rw[eB,E,gh],c⟩
  |true=>
   simp(disch:=try exact ah)only[aR,b8,IJ,af];refine(Kg es m (j+1) a n Q (λR ab=>au R (by simp[ab])) l.2 (dy.aP (dc.av (c) λ_ h=>h) _ _ T) (dy.aP (dc.av (c) λ_ h=>h) _ _ g6) ae ae x ((c).get i) ((c).get k) ae).mono ?_;rintro v H' ⟨rfl,q⟩;exact⟨by rw[eB,E,pq],(c).trans q⟩
def Bq{B:Nat}(x:B<=1000000000000){H:ad}{ok ok':Nat->Prop}{ks a:List a6}{d h:aa}(au:∀e∈ks,kV 62 B e)(o:ks.length<=B/\eE B ks)(i:cj H ok ks d)(j:cj H ok' a h):W (al P aj 34 [d,h] H) λr H'=>r= .bool (eB ks a)/\aw H H':=by
 refine bt (λ_=>WF (ks.length+1)) ?_;have z0:((0:Nat):Int)=0:=rfl;have aQ:=i.jM;have c2:=j.jM;by_cases c:ks.length=a.length
 ·by_cases k:ks.length=0
  ·have p:a.length=0:=ae;obtain rfl:=jk.1 k;obtain rfl:=jk.1 p;simp only[mc,pJ,rT,rS,ai,aQ,c2,z0,bne_self_eq_false,LM,decide_false];exact aD.2 ⟨by rw[eB],.refl _⟩
  ·obtain⟨C,y,z,F,v,rfl,br,l,q⟩:=i.row k;obtain⟨E,i2,A,G,w,rfl,bI,m,s⟩:=j.row ae;rw[<-c];simp only[rS,bU,bU,aR,cX,b8,KI ks.length];exact Kg ks a 0 ks.length (ks.length+1) H au o.2 q s c ae ae l m ae
 ·have n:=KH _ _ c;simp only[rS,bU,bU,aR,b8,aQ,c2,n];exact aD.2 ⟨by rw[C2 _ _ c],.refl _⟩
def De{B:Nat}(d:B<=1000000000000):∀(e:a6),kV 62 B e
 | .mk a es b c=>by
  intro h f v w H ok ok' j k;cases f with|mk bj es' cN c'=>
  rw[mS]at j k;obtain⟨ev,n,q,rfl,ap,aE,bB⟩:=j;obtain⟨x,o,s,rfl,f1,f2,f3⟩:=k;rw[gH]at h;have l:∀e∈b,kV 62 B e:=λe i=>De d e
  have m:∀e∈c,kV 62 B e:=λe i=>De d e
  exact aav ap.db f1.db aE.db f2.db bB.db f3.db (λH' p=>JQ d (λe _=>M1 d e) h.1 (ap.av p) (f1.av p))
   (λH' p=>Bq d l h.2.1 (aE.av p) (f2.av p)) (λH' p=>Bq d m h.2.2 (bB.av p) (f3.av p))
 termination_by e=>SizeOf.sizeOf e
 decreasing_by
  ·exact a6.MP i
  ·exact a6.MQ i
section
set_option maxRecDepth 100000
noncomputable section
def nV(o:e)(F y:aa)(H:ad):O:=bO H (cg (H).next F) λa z=>bO z (cg (z).next y) λc p=>C (j P 98 a 0) λa0=>C (A P p 3 a0) λaJ=>C (j P 98 c 0) λa3=>C (A P p 3 a3) λa4=>C (w P .eql 3 X aJ a4) λn=>S n Y p (k (j P 98 a 1)) λav R=>S n Y R (qr (A P R 9 av)) λaw ap=>S n Y ap (k (j P 98 c 1)) λay V=>S n Y V (qr (A P V 9 ay)) λaz aq=>S n Y aq (k (w P .eql 9 X aw az)) λaA ar=>C (bC n (I aA) (I (.bool X))) λd=>S d Y ar (k (j P 98 a 2)) λaB W=>S d Y W (qr (A P W 43 aB)) λaC au=>S d Y au (k (j P 98 c 2)) λaD B=>S d Y B (qr (A P B 43 aD)) λaE ab=>S d Y ab (k (w P .eql 43 X aC aE)) λaF ae=>C (bC d (I aF) (I (.bool X))) λh=>S h Y ae (k (j P 98 a 7)) λaG E=>S h Y E (qr (A P E 3 aG)) λaH af=>S h Y af (k (j P 98 c 7)) λaI G=>S h Y G (qr (A P G 3 aI)) λaK ah=>S h Y ah (k (w P .eql 3 X aH aK)) λaL ai=>C (bC h (I aL) (I (.bool X))) λi=>S i Y ai (k (j P 98 a 3)) λaM K=>S i Y K (qr (A P K 96 aM)) λaN aj=>S i Y aj (k (j P 98 c 3)) λaO L=>S i Y L (qr (A P L 96 aO)) λaP s=>S i Y s (λq=>cZ s (o 91 [aN,aP,(.func (.func 92) [] [])] s) q) λaQ ak=>C (bC i (I aQ) (I (.bool X))) λl=>S l Y ak (k (j P 98 a 4)) λaR M=>S l Y M (qr (A P M 44 aR)) λaS al=>S l Y al (k (j P 98 c 4)) λaT N=>S l Y N (qr (A P N 44 aT)) λaU v=>S l Y v (λq=>cZ v (o 64 [aS,aU,(.func (.func 65) [] [])] v) q) λaV am=>C (bC l (I aV) (I (.bool X))) λm=>S m Y am (k (j P 98 a 5)) λaW Q=>S m Y Q (qr (A P Q 44 aW)) λaX an=>S m Y an (k (j P 98 c 5)) λaY T=>S m Y T (qr (A P T 44 aY)) λaZ x=>S m Y x (λq=>cZ x (o 64 [aX,aZ,(.func (.func 65) [] [])] x) q) λa1 ao=>C (bC m (I a1) (I (.bool X))) λa2=>I (a2,ao)
def W9(N:Nat){F y:aa}{H:ad}{r:aa×ad}(h:nV (al P aj) F y H=I r):al P aj 65 [F,y] H=I r:=bu N (S:=λa=>nV a F y H) Tryz.func65 (λ_=>by delta nV;kernel_rfl) h
def pV(a:e)(N:Nat)(H:ad):O:=some ((.bool Y),H)
def ZN(a:e)(N:Nat):∀V H,a7 P a N (L (L (L (n Tryz.f64)))) (p Tryz.f64) [] (p Tryz.f64) V H=pV a N H:=by
 refine bm (q _) λV H=> ?_
 delta pV;kernel_rfl
def r9(d:e)(N:Nat)(q:aa->aa->aa->aa->aa->ad->O)(y n:aa)(l m a:aa)(H:ad):O:=C (w P .lss 3 X a m) λs=>aO (I s) (C (bX P 44 l a) λv=>C (A P H 98 v) λx=>bn H [J U 0,Z [],Z [],J U 0,aa.ag,aa.ag,aa.ag,J U 0,J U 0] λo h=>aG h (aB P h 98 o x) λi=>C (bX P 44 y a) λz=>C (A P i 98 z) λB=>bn i [J U 0,Z [],Z [],J U 0,aa.ag,aa.ag,aa.ag,J U 0,J U 0] λp j=>aG j (aB P j 98 p B) λc=>C (A P c 98 o) λE=>C (A P c 98 p) λF=>jG d c n [E,F] λG k=>C (cI .not G) λK=>aO (I K) (I ((.bool X),k)) (C (w P .add 3 Y a (J U 1)) λL=>q y n l m L k)) (pV d N H)
def ml(a:e)(N:Nat):Nat->aa->aa->aa->aa->aa->ad->O
 |0,_,_,_,_,_,_=>u
 |n+1,y,i,c,d,h,H=>r9 a N (ml a N n) y i c d h H
def ZM(a:e)(N:Nat)(h:aa->aa->aa->aa->aa->ad->O):∀V H,a7 P a N (d (d (L (d (L (L (n Tryz.f64))))))) (λV H=>h (V 1) (V 2) (V 15) (V 16) (V 17) H) [(0,(λV H=>pV a N H))] (p Tryz.f64) V H=r9 a N h (V 1) (V 2) (V 15) (V 16) (V 17) H:=by
 refine bm (q _) λV H=> ?_
 delta r9;generalize pV a N=c;revert c;refine id ?_;intro c;kernel_rfl
def r8(a:e)(N:Nat)(F y j:aa)(H:ad):O:=bU P .len [44] [F] H λc=>bU P .len [44] [y] H λd=>C (w P .neq 3 X c d) λh=>aO (I h) (I ((.bool X),H)) (bU P .len [44] [F] H λi=>ml a N N y j F i (J U 0) H)
def W8(N:Nat){F y c:aa}{H:ad}{r:aa×ad}(h:r8 (al P aj) N F y c H=I r):al P aj 64 [F,y,c] H=I r:=bu N (S:=λa=>r8 a N F y c H) Tryz.func64 (λa=>cG ((Q M ((Q M ((Q M (ZN a N) ((Q M ((cn M ((cY (k:=λm V H=>ml a N m (V 1) (V 2) (V 15) (V 16) (V 17) H) M (λV H=>M) (λm=>ZM a N (ml a N m)))))) (q _))))) (q _))) (q _))) (by delta r8;generalize ml a N N=d;revert d;refine id ?_;intro d;kernel_rfl)) h
end
end
def aau{H:ad}{a bj:bR}{es es':List az}{b cN c c':List a6}{ev k e h i j:aa}(B:ev.one=Y)(C:k.one=Y)(E:e.one=Y)(F:h.one=Y)(G:i.one=Y)(K:j.one=Y)
  (N:∀H',aw H H'->W (al P aj 91 [ev,k,.func (.func 92) [] []] H') λr q=>r= .bool (eX es es')/\aw H' q)
  (L:∀H',aw H H'->W (al P aj 64 [e,h,.func (.func 65) [] []] H') λr q=>r= .bool (eB b cN)/\aw H' q)
  (M:∀H',aw H H'->W (al P aj 64 [i,j,.func (.func 65) [] []] H') λr q=>r= .bool (eB c c')/\aw H' q):
  W (al P aj 65 [.agg (a.cells ev e i),.agg (bj.cells k h j)] H) λr H'=>r= .bool (iZ (.mk a es b c) (.mk bj es' cN c'))/\aw H H':=by
 refine bt (λ_=>W9 0) ?_;have n:∀l,cg l (.agg (a.cells ev e i))=I (.ptr l 0 0,.row X 9 [a.cells ev e i]):=λl=>ei l _ (by simp only[bR.cells,xy,BC,eO,fk,B,E,G,rs])
 have o:∀l,cg l (.agg (bj.cells k h j))=I (.ptr l 0 0,.row X 9 [bj.cells k h j]):=λl=>ei l _ (by simp only[bR.cells,xy,BC,eO,fk,C,F,K,rs])
 have d:=(aw.push H (.row X 9 [a.cells ev e i])).a1 (.row X 9 [bj.cells k h j]);have s:((H.push (.row X 9 [a.cells ev e i])).push (.row X 9 [bj.cells k h j])).get H.next=I (.row X 9 [a.cells ev e i]):=by simp(disch:=try exact ah)only[b7]
 have v:((H.push (.row X 9 [a.cells ev e i])).push (.row X 9 [bj.cells k h j])).get (H.next+1)=I (.row X 9 [bj.cells k h j]):=by simp(disch:=try exact ah)only[b7]
 rw[iZ];simp only[bR.cells]at n o d s v ⊢;cases c0:a.kind==bj.kind with
 |false=>
  simp(disch:=try exact ah)only[nV,ai,n,o,c0];exact aD.2 ⟨by simp only[gh],d⟩
 |true=>
 cases c2:a.name==bj.name with
 |false=>
  simp(disch:=try exact ah)only[nV,fg,ai,n,o,c0,c2];exact aD.2 ⟨by simp only[gh,hi],d⟩
 |true=>
 cases c3:(a.b5==bj.b5&&a.ci==bj.ci)with
 |false=>
  simp(disch:=try exact ah)only[nV,fg,vw,ai,n,o,hT,c0,c2,c3];exact aD.2 ⟨by simp only[gh,hi],d⟩
 |true=>
 cases c5:a.ref==bj.ref with
 |false=>
  simp(disch:=try exact ah)only[nV,fg,vw,ai,n,o,hT,c0,c2,c3,c5];exact aD.2 ⟨by simp only[gh,hi],d⟩
 |true=>
 simp(disch:=try exact ah)only[nV,fg,vw,ai,n,o,hT,c0,c2,c3,c5];refine dZ (N _ d) ?_;rintro _ O ⟨rfl,m⟩;refine⟨m.1,?_⟩;have w:=m.get s;have x:=m.get v;cases d1:eX es es' with
 |false=>
  simp(disch:=try exact ah)only[ai];exact aD.2 ⟨by simp only[gh,hi],d.trans m⟩
 |true=>
 simp(disch:=try exact ah)only[fg,ai,fI,w,x];refine dZ (L _ (d.trans m)) ?_;rintro _ Q ⟨rfl,p⟩;refine⟨p.1,?_⟩;have z:=p.get w;have A:=p.get x;cases d2:eB b cN with
 |false=>
  simp(disch:=try exact ah)only[ai];exact aD.2 ⟨by simp only[gh,hi],(d.trans m).trans p⟩
 |true=>
 simp(disch:=try exact ah)only[fg,ai,fI,z,A];refine dZ (M _ ((d.trans m).trans p)) ?_;rintro _ R ⟨rfl,y⟩;refine⟨y.1,?_⟩;simp(disch:=try exact ah)only[ai];exact aD.2 ⟨by simp only[pq],((d.trans m).trans p).trans y⟩
def Kf{N B:Nat}{L K Q O:Nat}{kc lc:Option Nat}{am an:Bool}{G M:List (List aa)}{ok ok':Nat->Prop}:∀(es o:List a6) (j a n:Nat) (H:ad),(∀e∈es,kV 65 B e)->eE B es->dy H ok es (G.drop (K+j))->dy H ok' o (M.drop (O+j))->es.length=o.length->a=j+es.length->a<=1000000000000->H.get L=I (.row am 9 G)->H.get Q=I (.row an 9 M)->es.length<n->
  W (ml (al P aj) N n (.ax Q O a 9 lc) (.func (.func 65) [] []) (.ax L K a 9 kc) (J U a) (J U j) H) λr H'=>r= .bool (eB es o)/\aw H H'
 |_,_,_,_,0,_,_,_,_,_,_,_,_,_,_,s=>ae
 |[],[],j,a,n+1,H,au,m,w,x,i,p,y,k,l,s=>by
  have A:¬((j:Int)<(a:Int)):=by simp at p;omega
  simp(disch:=try exact ah)only[ml,pV,r9,ai,A,decide_false];exact aD.2 ⟨by rw[eB],.refl _⟩
 |[],_::_,j,a,n+1,H,au,m,w,x,i,p,y,k,l,s=>by simp at i
 |_::_,[],j,a,n+1,H,au,m,w,x,i,p,y,k,l,s=>by simp at i
 |e::es,f::o,j,a,n+1,H,au,m,w,x,i,p,y,k,l,s=>by
  simp only[cd]at i p s;have A:(j:Int)<(a:Int):=ae;have aE:(0:Int)<=(j:Int):=ae;have aq:((j:Int)).toNat=j:=ae;obtain⟨cs,T,C,V⟩:=w.cons;obtain⟨z,ab,E,g6⟩:=x.cons;obtain⟨_,aX,ao,ap⟩:=C.cells;cases aX;obtain⟨_,ar,ay,az⟩:=E.cells;cases ar;have aB:JK 9 cs=cs:=ij ae;have aC:JK 9 z=z:=ij ae;have aG:=ad.aF k;have aH:=ad.aF l;rw[eE]at m;have ak:IntKind.i64.wrap ((j:Int)+1)=((j+1:Nat):Int):=by rw[wrap_i64 ae ae];omega
  have c:=(aw.push H (.row X 9 [cs])).a1 (.row X 9 [z]);simp(disch:=try exact ah)only[ml,r9,fg,ai,fI,A,decide_true,aq,k,l,T,ab,aB,aC,ao,ap,ay,az,yz,kO];refine aA (au e (by simp) m.1 f _ _ _ ok ok' (C.av c) (E.av c)) ?_;rintro _ R ⟨rfl,d⟩;refine⟨d.1,?_⟩;cases F:iZ e f with
  |false=>
   simp(disch:=try exact ah)only[aR,EF];exact aD.2 ⟨by rw[eB,F,gh],c.trans d⟩
  |true=>
   simp(disch:=try exact ah)only[aR,b8,IJ,ak];refine(Kf es o (j+1) a n R (λS af=>au S (by simp[af])) m.2 (dy.aP (dc.av (c.trans d) λ_ h=>h) _ _ V) (dy.aP (dc.av (c.trans d) λ_ h=>h) _ _ g6) ae ae y ((c.trans d).get k) ((c.trans d).get l) ae).mono ?_;rintro v H' ⟨rfl,q⟩;exact⟨by rw[eB,F,pq],(c.trans d).trans q⟩
def Bp{B:Nat}(x:B<=1000000000000){H:ad}{ok ok':Nat->Prop}{ks a:List a6}{d h:aa}(au:∀e∈ks,kV 65 B e)(o:ks.length<=B/\eE B ks)(i:cj H ok ks d)(j:cj H ok' a h):W (al P aj 64 [d,h,.func (.func 65) [] []] H) λr H'=>r= .bool (eB ks a)/\aw H H':=by
 refine bt (λ_=>W8 (ks.length+1)) ?_;have z0:((0:Nat):Int)=0:=rfl;have aQ:=i.jM;have c2:=j.jM;by_cases c:ks.length=a.length
 ·by_cases k:ks.length=0
  ·have p:a.length=0:=ae;obtain rfl:=jk.1 k;obtain rfl:=jk.1 p;simp only[ml,pV,r9,r8,ai,aQ,c2,z0,bne_self_eq_false,LM,decide_false];exact aD.2 ⟨by rw[eB],.refl _⟩
  ·obtain⟨C,y,z,F,v,rfl,br,l,q⟩:=i.row k;obtain⟨E,i2,A,G,w,rfl,bI,m,s⟩:=j.row ae;rw[<-c];simp only[r8,bU,bU,aR,cX,b8,KI ks.length];exact Kf ks a 0 ks.length (ks.length+1) H au o.2 q s c ae ae l m ae
 ·have n:=KH _ _ c;simp only[r8,bU,bU,aR,b8,aQ,c2,n];exact aD.2 ⟨by rw[C2 _ _ c],.refl _⟩
def Dd{B:Nat}(d:B<=1000000000000):∀(e:a6),kV 65 B e
 | .mk a es b c=>by
  intro h f v w H ok ok' j k;cases f with|mk bj es' cN c'=>
  rw[mS]at j k;obtain⟨ev,n,q,rfl,ap,aE,bB⟩:=j;obtain⟨x,o,s,rfl,f1,f2,f3⟩:=k;rw[gH]at h;have l:∀e∈b,kV 65 B e:=λe i=>Dd d e
  have m:∀e∈c,kV 65 B e:=λe i=>Dd d e
  exact aau ap.db f1.db aE.db f2.db bB.db f3.db (λH' p=>JR d (λe _=>M2 d e) h.1 (ap.av p) (f1.av p))
   (λH' p=>Bp d l h.2.1 (aE.av p) (f2.av p)) (λH' p=>Bp d m h.2.2 (bB.av p) (f3.av p))
 termination_by e=>SizeOf.sizeOf e
 decreasing_by
  ·exact a6.MP i
  ·exact a6.MQ i
section
set_option maxRecDepth 100000
noncomputable section
def xb(h:e)(F y:aa)(H:ad):O:=bO H (cg (H).next F) λn p=>bO p (cg (p).next y) λo d=>C (j P 26 n 0) λah=>C (A P d 22 ah) λaJ=>C (j P 26 o 0) λai=>C (A P d 22 ai) λaj=>i d (h 40 [aJ,aj,(.func (.func 41) [] [])] d) λc E=>S c Y E (k (j P 26 n 1)) λL v=>S c Y v (qr (A P v 23 L)) λM G=>S c Y G (k (j P 26 o 1)) λN w=>S c Y w (qr (A P w 23 N)) λQ m=>S c Y m (λq=>cZ m (h 42 [M,Q,(.func (.func 43) [] [])] m) q) λR K=>C (bC c (I R) (I (.bool X))) λa=>S a Y K (k (j P 26 n 2)) λT x=>S a Y x (qr (A P x 24 T)) λV z=>S a Y z (k (j P 26 o 2)) λW s=>S a Y s (qr (A P s 24 W)) λab l=>S a Y l (λq=>cZ l (h 44 [V,ab,(.func (.func 45) [] [])] l) q) λae B=>C (bC a (I ae) (I (.bool X))) λaf=>I (af,B)
def VN(N:Nat){F y:aa}{H:ad}{r:aa×ad}(h:xb (al P aj) F y H=I r):al P aj 14 [F,y] H=I r:=bu N (S:=λa=>xb a F y H) Tryz.func14 (λ_=>by delta xb;kernel_rfl) h
def pL(a:e)(N:Nat)(H:ad):O:=some ((.bool Y),H)
def Zi(a:e)(N:Nat):∀V H,a7 P a N (L (L (L (n Tryz.f40)))) (p Tryz.f40) [] (p Tryz.f40) V H=pL a N H:=by
 refine bm (q _) λV H=> ?_
 delta pL;kernel_rfl
def rX(d:e)(N:Nat)(q:aa->aa->aa->aa->aa->ad->O)(y n:aa)(l m a:aa)(H:ad):O:=C (w P .lss 3 X a m) λs=>aO (I s) (C (bX P 22 l a) λv=>C (A P H 41 v) λx=>bn H [Z [],aa.ag,J U 0] λo h=>aG h (aB P h 41 o x) λi=>C (bX P 22 y a) λz=>C (A P i 41 z) λB=>bn i [Z [],aa.ag,J U 0] λp j=>aG j (aB P j 41 p B) λc=>C (A P c 41 o) λE=>C (A P c 41 p) λF=>jG d c n [E,F] λG k=>C (cI .not G) λK=>aO (I K) (I ((.bool X),k)) (C (w P .add 3 Y a (J U 1)) λL=>q y n l m L k)) (pL d N H)
def md(a:e)(N:Nat):Nat->aa->aa->aa->aa->aa->ad->O
 |0,_,_,_,_,_,_=>u
 |n+1,y,i,c,d,h,H=>rX a N (md a N n) y i c d h H
def Zh(a:e)(N:Nat)(h:aa->aa->aa->aa->aa->ad->O):∀V H,a7 P a N (d (d (L (d (L (L (n Tryz.f40))))))) (λV H=>h (V 1) (V 2) (V 15) (V 16) (V 17) H) [(0,(λV H=>pL a N H))] (p Tryz.f40) V H=rX a N h (V 1) (V 2) (V 15) (V 16) (V 17) H:=by
 refine bm (q _) λV H=> ?_
 delta rX;generalize pL a N=c;revert c;refine id ?_;intro c;kernel_rfl
def rW(a:e)(N:Nat)(F y j:aa)(H:ad):O:=bU P .len [22] [F] H λc=>bU P .len [22] [y] H λd=>C (w P .neq 3 X c d) λh=>aO (I h) (I ((.bool X),H)) (bU P .len [22] [F] H λi=>md a N N y j F i (J U 0) H)
def WJ(N:Nat){F y c:aa}{H:ad}{r:aa×ad}(h:rW (al P aj) N F y c H=I r):al P aj 40 [F,y,c] H=I r:=bu N (S:=λa=>rW a N F y c H) Tryz.func40 (λa=>cG ((Q M ((Q M ((Q M (Zi a N) ((Q M ((cn M ((cY (k:=λm V H=>md a N m (V 1) (V 2) (V 15) (V 16) (V 17) H) M (λV H=>M) (λm=>Zh a N (md a N m)))))) (q _))))) (q _))) (q _))) (by delta rW;generalize md a N N=d;revert d;refine id ?_;intro d;kernel_rfl)) h
def uA(o:e)(F y:aa)(H:ad):O:=bO H (cg (H).next F) λm h=>bO h (cg (h).next y) λn c=>C (j P 41 m 0) λK=>C (A P c 9 K) λaJ=>C (j P 41 n 0) λL=>C (A P c 9 L) λM=>C (w P .eql 9 X aJ M) λa=>S a Y c (k (j P 41 m 1)) λv i=>S a Y i (qr (A P i 23 v)) λx p=>S a Y p (k (j P 41 n 1)) λz l=>S a Y l (qr (A P l 23 z)) λB d=>S a Y d (λq=>cZ d (o 42 [x,B,(.func (.func 43) [] [])] d) q) λE s=>C (bC a (I E) (I (.bool X))) λG=>I (G,s)
def WK(N:Nat){F y:aa}{H:ad}{r:aa×ad}(h:uA (al P aj) F y H=I r):al P aj 41 [F,y] H=I r:=bu N (S:=λa=>uA a F y H) Tryz.func41 (λ_=>by delta uA;kernel_rfl) h
def pM(a:e)(N:Nat)(H:ad):O:=some ((.bool Y),H)
def Zk(a:e)(N:Nat):∀V H,a7 P a N (L (L (L (n Tryz.f42)))) (p Tryz.f42) [] (p Tryz.f42) V H=pM a N H:=by
 refine bm (q _) λV H=> ?_
 delta pM;kernel_rfl
def rZ(d:e)(N:Nat)(q:aa->aa->aa->aa->aa->ad->O)(y n:aa)(l m a:aa)(H:ad):O:=C (w P .lss 3 X a m) λs=>aO (I s) (C (bX P 23 l a) λv=>C (A P H 66 v) λx=>bn H [Z [],Z [],J U 0,J U 0] λo h=>aG h (aB P h 66 o x) λi=>C (bX P 23 y a) λz=>C (A P i 66 z) λB=>bn i [Z [],Z [],J U 0,J U 0] λp j=>aG j (aB P j 66 p B) λc=>C (A P c 66 o) λE=>C (A P c 66 p) λF=>jG d c n [E,F] λG k=>C (cI .not G) λK=>aO (I K) (I ((.bool X),k)) (C (w P .add 3 Y a (J U 1)) λL=>q y n l m L k)) (pM d N H)
def me(a:e)(N:Nat):Nat->aa->aa->aa->aa->aa->ad->O
 |0,_,_,_,_,_,_=>u
 |n+1,y,i,c,d,h,H=>rZ a N (me a N n) y i c d h H
def Zj(a:e)(N:Nat)(h:aa->aa->aa->aa->aa->ad->O):∀V H,a7 P a N (d (d (L (d (L (L (n Tryz.f42))))))) (λV H=>h (V 1) (V 2) (V 15) (V 16) (V 17) H) [(0,(λV H=>pM a N H))] (p Tryz.f42) V H=rZ a N h (V 1) (V 2) (V 15) (V 16) (V 17) H:=by
 refine bm (q _) λV H=> ?_
 delta rZ;generalize pM a N=c;revert c;refine id ?_;intro c;kernel_rfl
def rY(a:e)(N:Nat)(F y j:aa)(H:ad):O:=bU P .len [23] [F] H λc=>bU P .len [23] [y] H λd=>C (w P .neq 3 X c d) λh=>aO (I h) (I ((.bool X),H)) (bU P .len [23] [F] H λi=>me a N N y j F i (J U 0) H)
def WL(N:Nat){F y c:aa}{H:ad}{r:aa×ad}(h:rY (al P aj) N F y c H=I r):al P aj 42 [F,y,c] H=I r:=bu N (S:=λa=>rY a N F y c H) Tryz.func42 (λa=>cG ((Q M ((Q M ((Q M (Zk a N) ((Q M ((cn M ((cY (k:=λm V H=>me a N m (V 1) (V 2) (V 15) (V 16) (V 17) H) M (λV H=>M) (λm=>Zj a N (me a N m)))))) (q _))))) (q _))) (q _))) (by delta rY;generalize me a N N=d;revert d;refine id ?_;intro d;kernel_rfl)) h
def uB(L:e)(F y:aa)(H:ad):O:=bO H (cg (H).next F) λl d=>bO d (cg (d).next y) λm c=>C (j P 66 l 0) λE=>C (A P c 9 E) λaJ=>C (j P 66 m 0) λG=>C (A P c 9 G) λK=>C (w P .eql 9 X aJ K) λa=>S a Y c (k (j P 66 l 1)) λq h=>S a Y h (qr (A P h 43 q)) λs n=>S a Y n (k (j P 66 m 1)) λv i=>S a Y i (qr (A P i 43 v)) λx o=>S a Y o (k (w P .eql 43 X s x)) λz p=>C (bC a (I z) (I (.bool X))) λB=>I (B,p)
def WM(N:Nat){F y:aa}{H:ad}{r:aa×ad}(h:uB (al P aj) F y H=I r):al P aj 43 [F,y] H=I r:=bu N (S:=λa=>uB a F y H) Tryz.func43 (λ_=>by delta uB;kernel_rfl) h
def pN(a:e)(N:Nat)(H:ad):O:=some ((.bool Y),H)
def Zm(a:e)(N:Nat):∀V H,a7 P a N (L (L (L (n Tryz.f44)))) (p Tryz.f44) [] (p Tryz.f44) V H=pN a N H:=by
 refine bm (q _) λV H=> ?_
 delta pN;kernel_rfl
def r1(d:e)(N:Nat)(q:aa->aa->aa->aa->aa->ad->O)(y n:aa)(l m a:aa)(H:ad):O:=C (w P .lss 3 X a m) λs=>aO (I s) (C (bX P 24 l a) λv=>C (A P H 46 v) λx=>bn H [Z [],aa.ag,.bool X,Z [],J U 0,aa.ag,J U 0] λo h=>aG h (aB P h 46 o x) λi=>C (bX P 24 y a) λz=>C (A P i 46 z) λB=>bn i [Z [],aa.ag,.bool X,Z [],J U 0,aa.ag,J U 0] λp j=>aG j (aB P j 46 p B) λc=>C (A P c 46 o) λE=>C (A P c 46 p) λF=>jG d c n [E,F] λG k=>C (cI .not G) λK=>aO (I K) (I ((.bool X),k)) (C (w P .add 3 Y a (J U 1)) λL=>q y n l m L k)) (pN d N H)
def mf(a:e)(N:Nat):Nat->aa->aa->aa->aa->aa->ad->O
 |0,_,_,_,_,_,_=>u
 |n+1,y,i,c,d,h,H=>r1 a N (mf a N n) y i c d h H
def Zl(a:e)(N:Nat)(h:aa->aa->aa->aa->aa->ad->O):∀V H,a7 P a N (d (d (L (d (L (L (n Tryz.f44))))))) (λV H=>h (V 1) (V 2) (V 15) (V 16) (V 17) H) [(0,(λV H=>pN a N H))] (p Tryz.f44) V H=r1 a N h (V 1) (V 2) (V 15) (V 16) (V 17) H:=by
 refine bm (q _) λV H=> ?_
 delta r1;generalize pN a N=c;revert c;refine id ?_;intro c;kernel_rfl
def r0(a:e)(N:Nat)(F y j:aa)(H:ad):O:=bU P .len [24] [F] H λc=>bU P .len [24] [y] H λd=>C (w P .neq 3 X c d) λh=>aO (I h) (I ((.bool X),H)) (bU P .len [24] [F] H λi=>mf a N N y j F i (J U 0) H)
def WN(N:Nat){F y c:aa}{H:ad}{r:aa×ad}(h:r0 (al P aj) N F y c H=I r):al P aj 44 [F,y,c] H=I r:=bu N (S:=λa=>r0 a N F y c H) Tryz.func44 (λa=>cG ((Q M ((Q M ((Q M (Zm a N) ((Q M ((cn M ((cY (k:=λm V H=>mf a N m (V 1) (V 2) (V 15) (V 16) (V 17) H) M (λV H=>M) (λm=>Zl a N (mf a N m)))))) (q _))))) (q _))) (q _))) (by delta r0;generalize mf a N N=d;revert d;refine id ?_;intro d;kernel_rfl)) h
def uC(p:e)(F y:aa)(H:ad):O:=bO H (cg (H).next F) λi s=>bO s (cg (s).next y) λl m=>C (j P 46 i 0) λaF=>C (A P m 9 aF) λaJ=>C (j P 46 l 0) λaG=>C (A P m 9 aG) λaH=>C (w P .eql 9 X aJ aH) λh=>S h Y m (k (j P 46 i 1)) λah G=>S h Y G (qr (A P G 23 ah)) λai ab=>S h Y ab (k (j P 46 l 1)) λaj K=>S h Y K (qr (A P K 23 aj)) λak o=>S h Y o (λq=>cZ o (p 42 [ai,ak,(.func (.func 43) [] [])] o) q) λal ae=>C (bC h (I al) (I (.bool X))) λa=>S a Y ae (k (j P 46 i 2)) λam L=>S a Y L (qr (A P L 4 am)) λan af=>S a Y af (k (j P 46 l 2)) λao v=>S a Y v (qr (A P v 4 ao)) λap M=>S a Y M (k (w P .eql 4 X an ap)) λaq N=>C (bC a (I aq) (I (.bool X))) λc=>S c Y N (k (j P 46 i 3)) λar x=>S c Y x (qr (A P x 43 ar)) λau Q=>S c Y Q (k (j P 46 l 3)) λav z=>S c Y z (qr (A P z 43 av)) λaw R=>S c Y R (k (w P .eql 43 X au aw)) λay T=>C (bC c (I ay) (I (.bool X))) λd=>S d Y T (k (j P 46 i 4)) λaz B=>S d Y B (qr (A P B 44 az)) λaA V=>S d Y V (k (j P 46 l 4)) λaB E=>S d Y E (qr (A P E 44 aB)) λaC n=>S d Y n (λq=>cZ n (p 64 [aA,aC,(.func (.func 65) [] [])] n) q) λaD W=>C (bC d (I aD) (I (.bool X))) λaE=>I (aE,W)
def WO(N:Nat){F y:aa}{H:ad}{r:aa×ad}(h:uC (al P aj) F y H=I r):al P aj 45 [F,y] H=I r:=bu N (S:=λa=>uC a F y H) Tryz.func45 (λ_=>by delta uC;kernel_rfl) h
end
end
def dl{α:Type}(f:α->α->Bool):List α->List α->Bool
 |[],[]=>Y
 |a::l,b::m=>f a b&&dl f l m
 |_,_=>X
def m1{α:Type}{f:α->α->Bool}:∀(l m:List α),l.length≠m.length->dl f l m=X
 |[],[],h=>absurd rfl h
 |[],_::_,_=>rfl
 |_::_,[],_=>rfl
 |a::l,b::m,h=>by rw[dl,m1 l m (by simpa using h),hi]
def qC{α:Type}{f:α->α->Bool}(h:∀a,f a a=Y):∀l,dl f l l=Y
 |[]=>rfl
 |a::l=>by rw[dl,h,qC h l];rfl
def fm(a b:bq):Bool:=a.name==b.name&&(a.b5==b.b5&&a.ci==b.ci)
def gL(a b:dB):Bool:=a.name==b.name&&dl fm a.fields b.fields
def h4(a b:Fn):Bool:=a.name==b.name&&(dl fm a.params b.params&&(a.has==b.has&&((a.cm==b.cm&&a.rd==b.rd)&&eB a.body b.body)))
def jE(a b:bw):Bool:=dl gL a.bJ b.bJ&&(dl fm a.globals b.globals&&dl h4 a.funcs b.funcs)
section
variable {α:Type}{K:ja α}{H:ad}{ok:Nat->Prop}
def cf.row{l:List α}{v:aa}(h:cf K H ok l v)(ak:¬l.length=0):∃L i cap ro els,v= .ax L i l.length K.esz cap/\H.get L=I (.row ro K.esz els)/\∀(j:Nat) (a:α),l[j]? =I a->∃cs,els[i+j]? =I cs/\K.V H ok a cs:=by
 rcases h with⟨rfl,h⟩|⟨L,i,cap,ro,els,ap,aE,bB,cc⟩|⟨L,i,cap,rfl,h⟩
 ·rw[h]at ak;exact absurd rfl ak
 ·exact⟨L,i,_,ro,els,ap,bB,cc⟩
 ·rw[h]at ak;exact absurd rfl ak
end
def cf.hY{H:ad}{ok:Nat->Prop}{l:List bq}{v:aa}(h:cf cQ H ok l v)(H':ad):bK P H' .len [23] [v]=I (J U l.length):=by
 rcases h with⟨rfl,rfl⟩|⟨L,i,cap,ro,els,rfl,_⟩|⟨L,i,cap,rfl,rfl⟩
 ·exact vO
 ·exact tk
 ·exact tk
def F6{Φ:bq->Prop}(G:∀(a b:bq) (cs d:List aa) (H:ad) (ok ok':Nat->Prop),Φ a->cQ.V H ok a cs->cQ.V H ok' b d->W (al P aj 43 [.agg cs,.agg d] H) λr H'=>r= .bool (fm a b)/\aw H H'){N:Nat}{l m:List bq}(ak:l.length<=1000000000)(az:l.length=m.length)(O:∀a∈l,Φ a){S R af ab:Nat}{kc lc:Option Nat}{aC aH:Bool}{Q T:List (List aa)}{ok ok':Nat->Prop}:
  ∀(c j n:Nat) (H:ad),j+c=l.length->c<n->H.get S=I (.row aC 4 Q)->H.get af=I (.row aH 4 T)->(∀(j:Nat) (a:bq),l[j]? =I a->∃cs,Q[R+j]? =I cs/\cQ.V H ok a cs)->(∀(j:Nat) (a:bq),m[j]? =I a->∃cs,T[ab+j]? =I cs/\cQ.V H ok' a cs)->
  W (me (al P aj) N n (.ax af ab m.length 4 lc) (.func (.func 43) [] []) (.ax S R l.length 4 kc) (J U l.length) (J U j) H) λr H'=>r= .bool (dl fm (l.drop j) (m.drop j))/\aw H H'
 |_,_,0,_,_,M,_,_,_,_=>ae
 |0,j,n+1,H,ay,M,h,k,ap,aE=>by
  have s:¬((j:Int)<(l.length:Int)):=ae;have d1:l.drop j=[]:=CD ae;have d2:m.drop j=[]:=CD ae;simp(disch:=try exact ah)only[me,pM,rZ,aR,b8,s,decide_false];exact aD.2 ⟨by rw[d1,d2];rfl,.refl _⟩
 |c+1,j,n+1,H,ay,M,h,k,ap,aE=>by
  have K:j<l.length:=ae;have L:j<m.length:=ae;have s:(j:Int)<(l.length:Int):=ae;have aN:(j:Int)<(m.length:Int):=ae;have aM:(0:Int)<=(j:Int):=ae;have aq:((j:Int)).toNat=j:=ae;obtain⟨cs,ar,C⟩:=ap j l[j] (kl K);obtain⟨d,au,E⟩:=aE j m[j] (kl L);obtain⟨am,aI⟩:=cQ.len C;obtain⟨an,aJ⟩:=cQ.len E;have aG:cQ.esz=4:=rfl;rw[aG]at am an;have aK:JK 4 cs=cs:=ij ae;have aL:JK 4 d=d:=ij ae;have aO:=ad.aF h;have aQ:=ad.aF k;have aB:IntKind.i64.wrap ((j:Int)+1)=((j+1:Nat):Int):=by rw[wrap_i64 ae ae];omega
  have o:=(aw.push H (.row X 4 [cs])).a1 (.row X 4 [d]);simp(disch:=try exact ah)only[me,rZ,fg,ai,s,decide_true,aq,h,k,ar,au,aK,aL,am,aI,an,aJ,yz,kO];refine aA (G l[j] m[j] _ _ _ ok ok' (O _ (PQ _)) (cQ.aP (ce.av o) C) (cQ.aP (ce.av o) E)) ?_;rintro _ ao ⟨rfl,w⟩;refine⟨w.1,?_⟩;have A:l.drop j=l[j]::l.drop (j+1):=wx K;have B:m.drop j=m[j]::m.drop (j+1):=wx L;cases F:fm l[j] m[j]with
  |false=>
   simp(disch:=try exact ah)only[aR,EF];exact aD.2 ⟨by rw[A,B,dl,F,gh],o.trans w⟩
  |true=>
   simp(disch:=try exact ah)only[aR,b8,IJ,aB];have e:=o.trans w;refine(F6 G ak az O (ok:=ok) (ok':=ok') c (j+1) n ao ae ae (e.get h) (e.get k) (λi a p=> ?_) (λi a p=> ?_)).mono ?_
   ·obtain⟨x,y,z⟩:=ap i a p;exact⟨x,y,cQ.aP (ce.av e) z⟩
   ·obtain⟨x,y,z⟩:=aE i a p;exact⟨x,y,cQ.aP (ce.av e) z⟩
   ·rintro v H' ⟨rfl,q⟩;exact⟨by rw[A,B,dl,F,pq],e.trans q⟩
def Au{Φ:bq->Prop}(n:∀(a b:bq) (cs c:List aa) (H:ad) (ok ok':Nat->Prop),Φ a->cQ.V H ok a cs->cQ.V H ok' b c->W (al P aj 43 [.agg cs,.agg c] H) λr H'=>r= .bool (fm a b)/\aw H H'){H:ad}{l m:List bq}(ak:l.length<=1000000000)(s:∀a∈l,Φ a){v w:aa}{ok ok':Nat->Prop}(h:cf cQ H ok l v)(i:cf cQ H ok' m w):W (al P aj 42 [v,w,.func (.func 43) [] []] H) λr H'=>r= .bool (dl fm l m)/\aw H H':=by
 refine bt (λ_=>WL (l.length+1)) ?_;have aQ:=λH'=>h.hY H'
 have c2:=λH'=>i.hY H'
 have z0:((0:Nat):Int)=0:=rfl;by_cases j:l.length=m.length
 ·by_cases k:l.length=0
  ·have q:m.length=0:=ae;obtain rfl:=jk.1 k;obtain rfl:=jk.1 q;simp only[me,pM,rZ,rY,ai,aQ,c2,z0,bne_self_eq_false,LM,decide_false];exact aD.2 ⟨rfl,.refl _⟩
  ·obtain⟨G,F,x,L,C,rfl,d,A⟩:=h.row k;obtain⟨K,i2,y,M,E,rfl,e,B⟩:=i.row ae;have p:((l.length:Int) != (m.length:Int))=false:=by simp;omega
   have z:cQ.esz=4:=rfl;rw[z]at aQ c2 d e ⊢;simp only[rY,bU,bU,aR,b8,aQ,c2,p];have:=F6 n (N:=l.length+1) ak j s (kc:=x) (lc:=y) l.length 0 (l.length+1) H ae ae d e A B;simpa using this
 ·have o:((l.length:Int) != (m.length:Int))=true:=by simp;omega
  simp only[rY,bU,bU,aR,b8,aQ,c2,o];exact aD.2 ⟨by rw[m1 _ _ j],.refl _⟩
def C5(a b:bq)(cs c:List aa)(H:ad)(ok ok':Nat->Prop)(_:True)(i:cQ.V H ok a cs)(j:cQ.V H ok' b c):W (al P aj 43 [.agg cs,.agg c] H) λr H'=>r= .bool (fm a b)/\aw H H':=by
 obtain rfl:cs=a.cells:=i;obtain rfl:c=b.cells:=j;refine bt (λ_=>WM 0) ?_;have d:∀l,cg l (.agg a.cells)=I (.ptr l 0 0,.row X 4 [a.cells]):=λl=>ei l _ rfl
 have e:∀l,cg l (.agg b.cells)=I (.ptr l 0 0,.row X 4 [b.cells]):=λl=>ei l _ rfl
 have h:=(aw.push H (.row X 4 [a.cells])).a1 (.row X 4 [b.cells]);unfold fm;simp only[bq.cells]at d e h ⊢;cases c0:a.name==b.name with
 |false=>
  simp(disch:=try exact ah)only[uB,ai,d,e,c0];exact aD.2 ⟨by simp only[gh],h⟩
 |true=>
  simp(disch:=try exact ah)only[uB,fg,vw,ai,d,e,c0,hT];exact aD.2 ⟨by simp only[pq],h⟩
def cf.jV{H:ad}{ok:Nat->Prop}{l:List dB}{v:aa}(h:cf dq H ok l v)(H':ad):bK P H' .len [22] [v]=I (J U l.length):=by
 rcases h with⟨rfl,rfl⟩|⟨L,i,cap,ro,els,rfl,_⟩|⟨L,i,cap,rfl,rfl⟩
 ·exact vN
 ·exact tj
 ·exact tj
def F5{Φ:dB->Prop}(G:∀(a b:dB) (cs d:List aa) (H:ad) (ok ok':Nat->Prop),Φ a->dq.V H ok a cs->dq.V H ok' b d->W (al P aj 41 [.agg cs,.agg d] H) λr H'=>r= .bool (gL a b)/\aw H H'){N:Nat}{l m:List dB}(ak:l.length<=1000000000)(az:l.length=m.length)(O:∀a∈l,Φ a){S R af ab:Nat}{kc lc:Option Nat}{aC aH:Bool}{Q T:List (List aa)}{ok ok':Nat->Prop}:
  ∀(c j n:Nat) (H:ad),j+c=l.length->c<n->H.get S=I (.row aC 3 Q)->H.get af=I (.row aH 3 T)->(∀(j:Nat) (a:dB),l[j]? =I a->∃cs,Q[R+j]? =I cs/\dq.V H ok a cs)->(∀(j:Nat) (a:dB),m[j]? =I a->∃cs,T[ab+j]? =I cs/\dq.V H ok' a cs)->
  W (md (al P aj) N n (.ax af ab m.length 3 lc) (.func (.func 41) [] []) (.ax S R l.length 3 kc) (J U l.length) (J U j) H) λr H'=>r= .bool (dl gL (l.drop j) (m.drop j))/\aw H H'
 |_,_,0,_,_,M,_,_,_,_=>ae
 |0,j,n+1,H,ay,M,h,k,ap,aE=>by
  have s:¬((j:Int)<(l.length:Int)):=ae;have d1:l.drop j=[]:=CD ae;have d2:m.drop j=[]:=CD ae;simp(disch:=try exact ah)only[md,pL,rX,aR,b8,s,decide_false];exact aD.2 ⟨by rw[d1,d2];rfl,.refl _⟩
 |c+1,j,n+1,H,ay,M,h,k,ap,aE=>by
  have K:j<l.length:=ae;have L:j<m.length:=ae;have s:(j:Int)<(l.length:Int):=ae;have aN:(j:Int)<(m.length:Int):=ae;have aM:(0:Int)<=(j:Int):=ae;have aq:((j:Int)).toNat=j:=ae;obtain⟨cs,ar,C⟩:=ap j l[j] (kl K);obtain⟨d,au,E⟩:=aE j m[j] (kl L);obtain⟨am,aI⟩:=dq.len C;obtain⟨an,aJ⟩:=dq.len E;have aG:dq.esz=3:=rfl;rw[aG]at am an;have aK:JK 3 cs=cs:=ij ae;have aL:JK 3 d=d:=ij ae;have aO:=ad.aF h;have aQ:=ad.aF k;have aB:IntKind.i64.wrap ((j:Int)+1)=((j+1:Nat):Int):=by rw[wrap_i64 ae ae];omega
  have o:=(aw.push H (.row X 3 [cs])).a1 (.row X 3 [d]);simp(disch:=try exact ah)only[md,rX,fg,ai,s,decide_true,aq,h,k,ar,au,aK,aL,am,aI,an,aJ,yz,kO];refine aA (G l[j] m[j] _ _ _ ok ok' (O _ (PQ _)) (dq.aP (ce.av o) C) (dq.aP (ce.av o) E)) ?_;rintro _ ao ⟨rfl,w⟩;refine⟨w.1,?_⟩;have A:l.drop j=l[j]::l.drop (j+1):=wx K;have B:m.drop j=m[j]::m.drop (j+1):=wx L;cases F:gL l[j] m[j]with
  |false=>
   simp(disch:=try exact ah)only[aR,EF];exact aD.2 ⟨by rw[A,B,dl,F,gh],o.trans w⟩
  |true=>
   simp(disch:=try exact ah)only[aR,b8,IJ,aB];have e:=o.trans w;refine(F5 G ak az O (ok:=ok) (ok':=ok') c (j+1) n ao ae ae (e.get h) (e.get k) (λi a p=> ?_) (λi a p=> ?_)).mono ?_
   ·obtain⟨x,y,z⟩:=ap i a p;exact⟨x,y,dq.aP (ce.av e) z⟩
   ·obtain⟨x,y,z⟩:=aE i a p;exact⟨x,y,dq.aP (ce.av e) z⟩
   ·rintro v H' ⟨rfl,q⟩;exact⟨by rw[A,B,dl,F,pq],e.trans q⟩
def Q2{Φ:dB->Prop}(n:∀(a b:dB) (cs c:List aa) (H:ad) (ok ok':Nat->Prop),Φ a->dq.V H ok a cs->dq.V H ok' b c->W (al P aj 41 [.agg cs,.agg c] H) λr H'=>r= .bool (gL a b)/\aw H H'){H:ad}{l m:List dB}(ak:l.length<=1000000000)(s:∀a∈l,Φ a){v w:aa}{ok ok':Nat->Prop}(h:cf dq H ok l v)(i:cf dq H ok' m w):W (al P aj 40 [v,w,.func (.func 41) [] []] H) λr H'=>r= .bool (dl gL l m)/\aw H H':=by
 refine bt (λ_=>WJ (l.length+1)) ?_;have aQ:=λH'=>h.jV H'
 have c2:=λH'=>i.jV H'
 have z0:((0:Nat):Int)=0:=rfl;by_cases j:l.length=m.length
 ·by_cases k:l.length=0
  ·have q:m.length=0:=ae;obtain rfl:=jk.1 k;obtain rfl:=jk.1 q;simp only[md,pL,rX,rW,ai,aQ,c2,z0,bne_self_eq_false,LM,decide_false];exact aD.2 ⟨rfl,.refl _⟩
  ·obtain⟨G,F,x,L,C,rfl,d,A⟩:=h.row k;obtain⟨K,i2,y,M,E,rfl,e,B⟩:=i.row ae;have p:((l.length:Int) != (m.length:Int))=false:=by simp;omega
   have z:dq.esz=3:=rfl;rw[z]at aQ c2 d e ⊢;simp only[rW,bU,bU,aR,b8,aQ,c2,p];have:=F5 n (N:=l.length+1) ak j s (kc:=x) (lc:=y) l.length 0 (l.length+1) H ae ae d e A B;simpa using this
 ·have o:((l.length:Int) != (m.length:Int))=true:=by simp;omega
  simp only[rW,bU,bU,aR,b8,aQ,c2,o];exact aD.2 ⟨by rw[m1 _ _ j],.refl _⟩
def aaD(a b:dB)(cs d:List aa)(H:ad)(ok ok':Nat->Prop)(au:a.fields.length<=1000000000)(m:dq.V H ok a cs)(n:dq.V H ok' b d):W (al P aj 41 [.agg cs,.agg d] H) λr H'=>r= .bool (gL a b)/\aw H H':=by
 obtain⟨v,rfl,j⟩:=m;obtain⟨w,rfl,k⟩:=n;refine bt (λ_=>WK 0) ?_;have br:=j.one;have bI:=k.one;have e:∀l,cg l (.agg [Z a.name,v,J U a.pos])=I (.ptr l 0 0,.row X 3 [[Z a.name,v,J U a.pos]]):=λl=>ei l _ (by simp only[xy,BC,fk,eO,br,rs])
 have h:∀l,cg l (.agg [Z b.name,w,J U b.pos])=I (.ptr l 0 0,.row X 3 [[Z b.name,w,J U b.pos]]):=λl=>ei l _ (by simp only[xy,BC,fk,eO,bI,rs])
 have c:=(aw.push H (.row X 3 [[Z a.name,v,J U a.pos]])).a1 (.row X 3 [[Z b.name,w,J U b.pos]]);unfold gL;cases c0:a.name==b.name with
 |false=>
  simp(disch:=try exact ah)only[uA,ai,e,h,c0];exact aD.2 ⟨by simp only[gh],c⟩
 |true=>
  simp(disch:=try exact ah)only[uA,fg,ai,e,h,c0];refine dZ (Au (Φ:=λ_=>True) C5 au (λ_ _=>trivial) (j.aP (ce.av c)) (k.aP (ce.av c))) ?_;rintro _ o ⟨rfl,i⟩;refine⟨i.1,?_⟩;simp(disch:=try exact ah)only[aR];exact aD.2 ⟨by simp only[pq],c.trans i⟩
def cf.jW{H:ad}{ok:Nat->Prop}{l:List Fn}{v:aa}(h:cf dh H ok l v)(H':ad):bK P H' .len [24] [v]=I (J U l.length):=by
 rcases h with⟨rfl,rfl⟩|⟨L,i,cap,ro,els,rfl,_⟩|⟨L,i,cap,rfl,rfl⟩
 ·exact vP
 ·exact tl
 ·exact tl
def F7{Φ:Fn->Prop}(G:∀(a b:Fn) (cs d:List aa) (H:ad) (ok ok':Nat->Prop),Φ a->dh.V H ok a cs->dh.V H ok' b d->W (al P aj 45 [.agg cs,.agg d] H) λr H'=>r= .bool (h4 a b)/\aw H H'){N:Nat}{l m:List Fn}(ak:l.length<=1000000000)(az:l.length=m.length)(O:∀a∈l,Φ a){S R af ab:Nat}{kc lc:Option Nat}{aC aH:Bool}{Q T:List (List aa)}{ok ok':Nat->Prop}:
  ∀(c j n:Nat) (H:ad),j+c=l.length->c<n->H.get S=I (.row aC 7 Q)->H.get af=I (.row aH 7 T)->(∀(j:Nat) (a:Fn),l[j]? =I a->∃cs,Q[R+j]? =I cs/\dh.V H ok a cs)->(∀(j:Nat) (a:Fn),m[j]? =I a->∃cs,T[ab+j]? =I cs/\dh.V H ok' a cs)->
  W (mf (al P aj) N n (.ax af ab m.length 7 lc) (.func (.func 45) [] []) (.ax S R l.length 7 kc) (J U l.length) (J U j) H) λr H'=>r= .bool (dl h4 (l.drop j) (m.drop j))/\aw H H'
 |_,_,0,_,_,M,_,_,_,_=>ae
 |0,j,n+1,H,ay,M,h,k,ap,aE=>by
  have s:¬((j:Int)<(l.length:Int)):=ae;have d1:l.drop j=[]:=CD ae;have d2:m.drop j=[]:=CD ae;simp(disch:=try exact ah)only[mf,pN,r1,aR,b8,s,decide_false];exact aD.2 ⟨by rw[d1,d2];rfl,.refl _⟩
 |c+1,j,n+1,H,ay,M,h,k,ap,aE=>by
  have K:j<l.length:=ae;have L:j<m.length:=ae;have s:(j:Int)<(l.length:Int):=ae;have aN:(j:Int)<(m.length:Int):=ae;have aM:(0:Int)<=(j:Int):=ae;have aq:((j:Int)).toNat=j:=ae;obtain⟨cs,ar,C⟩:=ap j l[j] (kl K);obtain⟨d,au,E⟩:=aE j m[j] (kl L);obtain⟨am,aI⟩:=dh.len C;obtain⟨an,aJ⟩:=dh.len E;have aG:dh.esz=7:=rfl;rw[aG]at am an;have aK:JK 7 cs=cs:=ij ae;have aL:JK 7 d=d:=ij ae;have aO:=ad.aF h;have aQ:=ad.aF k;have aB:IntKind.i64.wrap ((j:Int)+1)=((j+1:Nat):Int):=by rw[wrap_i64 ae ae];omega
  have o:=(aw.push H (.row X 7 [cs])).a1 (.row X 7 [d]);simp(disch:=try exact ah)only[mf,r1,fg,ai,s,decide_true,aq,h,k,ar,au,aK,aL,am,aI,an,aJ,yz,kO];refine aA (G l[j] m[j] _ _ _ ok ok' (O _ (PQ _)) (dh.aP (ce.av o) C) (dh.aP (ce.av o) E)) ?_;rintro _ ao ⟨rfl,w⟩;refine⟨w.1,?_⟩;have A:l.drop j=l[j]::l.drop (j+1):=wx K;have B:m.drop j=m[j]::m.drop (j+1):=wx L;cases F:h4 l[j] m[j]with
  |false=>
   simp(disch:=try exact ah)only[aR,EF];exact aD.2 ⟨by rw[A,B,dl,F,gh],o.trans w⟩
  |true=>
   simp(disch:=try exact ah)only[aR,b8,IJ,aB];have e:=o.trans w;refine(F7 G ak az O (ok:=ok) (ok':=ok') c (j+1) n ao ae ae (e.get h) (e.get k) (λi a p=> ?_) (λi a p=> ?_)).mono ?_
   ·obtain⟨x,y,z⟩:=ap i a p;exact⟨x,y,dh.aP (ce.av e) z⟩
   ·obtain⟨x,y,z⟩:=aE i a p;exact⟨x,y,dh.aP (ce.av e) z⟩
   ·rintro v H' ⟨rfl,q⟩;exact⟨by rw[A,B,dl,F,pq],e.trans q⟩
def Q3{Φ:Fn->Prop}(n:∀(a b:Fn) (cs c:List aa) (H:ad) (ok ok':Nat->Prop),Φ a->dh.V H ok a cs->dh.V H ok' b c->W (al P aj 45 [.agg cs,.agg c] H) λr H'=>r= .bool (h4 a b)/\aw H H'){H:ad}{l m:List Fn}(ak:l.length<=1000000000)(s:∀a∈l,Φ a){v w:aa}{ok ok':Nat->Prop}(h:cf dh H ok l v)(i:cf dh H ok' m w):W (al P aj 44 [v,w,.func (.func 45) [] []] H) λr H'=>r= .bool (dl h4 l m)/\aw H H':=by
 refine bt (λ_=>WN (l.length+1)) ?_;have aQ:=λH'=>h.jW H'
 have c2:=λH'=>i.jW H'
 have z0:((0:Nat):Int)=0:=rfl;by_cases j:l.length=m.length
 ·by_cases k:l.length=0
  ·have q:m.length=0:=ae;obtain rfl:=jk.1 k;obtain rfl:=jk.1 q;simp only[mf,pN,r1,r0,ai,aQ,c2,z0,bne_self_eq_false,LM,decide_false];exact aD.2 ⟨rfl,.refl _⟩
  ·obtain⟨G,F,x,L,C,rfl,d,A⟩:=h.row k;obtain⟨K,i2,y,M,E,rfl,e,B⟩:=i.row ae;have p:((l.length:Int) != (m.length:Int))=false:=by simp;omega
   have z:dh.esz=7:=rfl;rw[z]at aQ c2 d e ⊢;simp only[r0,bU,bU,aR,b8,aQ,c2,p];have:=F7 n (N:=l.length+1) ak j s (kc:=x) (lc:=y) l.length 0 (l.length+1) H ae ae d e A B;simpa using this
 ·have o:((l.length:Int) != (m.length:Int))=true:=by simp;omega
  simp only[r0,bU,bU,aR,b8,aQ,c2,o];exact aD.2 ⟨by rw[m1 _ _ j],.refl _⟩
def sK(a:Fn):Prop:=a.params.length<=1000000000/\a.body.length<=1000000000/\eE 1000000000 a.body
def aaC(a b:Fn)(cs n:List aa)(H:ad)(ok ok':Nat->Prop)(au:sK a)(E:dh.V H ok a cs)(F:dh.V H ok' b n):W (al P aj 45 [.agg cs,.agg n] H) λr H'=>r= .bool (h4 a b)/\aw H H':=by
 obtain⟨v,c,rfl,x,z⟩:=E;obtain⟨w,h,rfl,y,A⟩:=F;refine bt (λ_=>WO 0) ?_;have br:=x.one;have bI:=y.one;have b2:=z.db;have cM:=A.db;have p:∀l,cg l (.agg [Z a.name,v,.bool a.has,Z a.cm,J U a.rd,c,J U a.pos])=I (.ptr l 0 0,.row X 7 [[Z a.name,v,.bool a.has,Z a.cm,J U a.rd,c,J U a.pos]]):=λl=>ei l _ (by simp only[xy,BC,fk,eO,oU,br,b2,rs])
 have q:∀l,cg l (.agg [Z b.name,w,.bool b.has,Z b.cm,J U b.rd,h,J U b.pos])=I (.ptr l 0 0,.row X 7 [[Z b.name,w,.bool b.has,Z b.cm,J U b.rd,h,J U b.pos]]):=λl=>ei l _ (by simp only[xy,BC,fk,eO,oU,bI,cM,rs])
 have i:=(aw.push H (.row X 7 [[Z a.name,v,.bool a.has,Z a.cm,J U a.rd,c,J U a.pos]])).a1 (.row X 7 [[Z b.name,w,.bool b.has,Z b.cm,J U b.rd,h,J U b.pos]]);have C:=(aw.push (H.push (.row X 7 [[Z a.name,v,.bool a.has,Z a.cm,J U a.rd,c,J U a.pos]])) (.row X 7 [[Z b.name,w,.bool b.has,Z b.cm,J U b.rd,h,J U b.pos]])).get (ad.a_ H (.row X 7 [[Z a.name,v,.bool a.has,Z a.cm,J U a.rd,c,J U a.pos]]));have o:=ad.a_ (H.push (.row X 7 [[Z a.name,v,.bool a.has,Z a.cm,J U a.rd,c,J U a.pos]])) (.row X 7 [[Z b.name,w,.bool b.has,Z b.cm,J U b.rd,h,J U b.pos]])
 simp only[ad.bb]at o;unfold h4;cases c0:a.name==b.name with
 |false=>
  simp(disch:=try exact ah)only[uC,ai,p,q,c0];exact aD.2 ⟨by simp only[gh],i⟩
 |true=>
  simp(disch:=try exact ah)only[uC,fg,ai,p,q,c0];refine dZ (Au (Φ:=λ_=>True) C5 au.1 (λ_ _=>trivial) (x.aP (ce.av i)) (y.aP (ce.av i))) ?_;rintro _ G ⟨rfl,j⟩;refine⟨j.1,?_⟩;have k:=j.get C;have m:=j.get o;have d:=i.trans j;cases aQ:dl fm a.params b.params with
  |false=>
   simp(disch:=try exact ah)only[aR];exact aD.2 ⟨by simp only[gh,hi],d⟩
  |true=>
  cases c2:a.has==b.has with
  |false=>
   simp(disch:=try exact ah)only[fg,ai,k,m,c2];exact aD.2 ⟨by simp only[gh,hi],d⟩
  |true=>
  cases c3:(a.cm==b.cm&&a.rd==b.rd)with
  |false=>
   simp(disch:=try exact ah)only[fg,vw,ai,k,m,c2,hT,c3];exact aD.2 ⟨by simp only[gh,hi],d⟩
  |true=>
   simp(disch:=try exact ah)only[fg,vw,ai,k,m,c2,hT,c3];refine dZ (Bp (B:=1000000000) aC (λe _=>Dd aC e) au.2 (z.av d) (A.av d)) ?_;rintro _ K ⟨rfl,s⟩;refine⟨s.1,?_⟩;simp(disch:=try exact ah)only[aR];exact aD.2 ⟨by simp only[pq],d.trans s⟩
structure qh(g:bw):Prop where
 r:g.bJ.length<=1000000000/\∀a∈g.bJ,a.fields.length<=1000000000
 jQ:g.globals.length<=1000000000
 f:g.funcs.length<=1000000000/\∀a∈g.funcs,sK a
def LH{g g':bw}(au:qh g){H:ad}{ok ok':Nat->Prop}{rv gv fv rw c dI:aa}(o:cf dq H ok g.bJ rv)(p:cf cQ H ok g.globals gv)(q:cf dh H ok g.funcs fv)(s:cf dq H ok' g'.bJ rw)(v:cf cQ H ok' g'.globals c)(w:cf dh H ok' g'.funcs dI):
  W (al P aj 14 [.agg [rv,gv,fv],.agg [rw,c,dI]] H) λr H'=>r= .bool (jE g g')/\aw H H':=by
 refine bt (λ_=>VN 0) ?_;have br:=o.one;have bI:=p.one;have b2:=q.one;have aX:=s.one;have E:=v.one;have F:=w.one;have B:∀l,cg l (.agg [rv,gv,fv])=I (.ptr l 0 0,.row X 3 [[rv,gv,fv]]):=λl=>ei l _ (by simp only[xy,BC,br,bI,b2,rs])
 have C:∀l,cg l (.agg [rw,c,dI])=I (.ptr l 0 0,.row X 3 [[rw,c,dI]]):=λl=>ei l _ (by simp only[xy,BC,aX,E,F,rs])
 have j:=(aw.push H (.row X 3 [[rv,gv,fv]])).a1 (.row X 3 [[rw,c,dI]]);have y:=(aw.push (H.push (.row X 3 [[rv,gv,fv]])) (.row X 3 [[rw,c,dI]])).get (ad.a_ H (.row X 3 [[rv,gv,fv]]));have m:=ad.a_ (H.push (.row X 3 [[rv,gv,fv]])) (.row X 3 [[rw,c,dI]]);simp only[ad.bb]at m;unfold jE;simp(disch:=try exact ah)only[xb,ai,B,C];refine aA (Q2 (Φ:=λa=>a.fields.length<=1000000000) aaD au.r.1 au.r.2 (o.aP (ce.av j)) (s.aP (ce.av j))) ?_;rintro _ G ⟨rfl,h⟩;refine⟨h.1,?_⟩;have k:=h.get y;have n:=h.get m;have d:=j.trans h;cases aQ:dl gL g.bJ g'.bJ with
 |false=>
  simp(disch:=try exact ah)only[aR];exact aD.2 ⟨by simp only[gh],d⟩
 |true=>
  simp(disch:=try exact ah)only[fg,ai,k,n];refine dZ (Au (Φ:=λ_=>True) C5 au.jQ (λ_ _=>trivial) (p.aP (ce.av d)) (v.aP (ce.av d))) ?_;rintro _ K ⟨rfl,i⟩;refine⟨i.1,?_⟩;have z:=i.get k;have A:=i.get n;have e:=d.trans i;cases c2:dl fm g.globals g'.globals with
  |false=>
   simp(disch:=try exact ah)only[aR];exact aD.2 ⟨by simp only[gh,hi],e⟩
  |true=>
   simp(disch:=try exact ah)only[fg,ai,z,A];refine dZ (Q3 (Φ:=sK) aaC au.f.1 au.f.2 (q.aP (ce.av e)) (w.aP (ce.av e))) ?_;rintro _ L ⟨rfl,x⟩;refine⟨x.1,?_⟩;simp(disch:=try exact ah)only[aR];exact aD.2 ⟨by simp only[pq],e.trans x⟩
def lC(T:List Tok)(s:am):c6 1000000000 (cv T s).1:=by
 unfold cv;split
 ·exact c6.leaf _
 ·split
  ·rename_i e s' h;split
   ·exact(Dc T 1000000000 800000000 ae).row _ _ (e,s') h
   ·exact c6.leaf _
  ·exact c6.leaf _
def eE.append{B:Nat}{e:a6}(h:gH B e):∀{l:List a6},eE B l->eE B (l++[e])
 |[],_=>by rw[zA,eE,eE];exact⟨h,trivial⟩
 |x::xs,ak=>by
  rw[eE]at ak;rw[mn,eE];exact⟨ak.1,eE.append h ak.2⟩
def uT(a:bR){e:az}(h:c6 1000000000 e):gH 1000000000 (.mk a [e] [] []):=by
 rw[gH,dF,dF,eE];exact⟨⟨by simp,h,trivial⟩,⟨by simp,trivial⟩,⟨by simp,trivial⟩⟩
def M0(a:bR):gH 1000000000 (.mk a [] [] []):=by
 rw[gH,dF,eE];exact⟨⟨by simp,trivial⟩,⟨by simp,trivial⟩,⟨by simp,trivial⟩⟩
def aa0{e:a6}(p:Int)(h:gH 1000000000 e):gH 1000000000 (e.at p):=by
 cases e;rw[a6.at,gH];rw[gH]at h;exact h
structure Pa(T:List Tok)(n:Nat):Prop where
 stmt:∀s x,n6 T n s=some x->gH 1000000000 x.1
 block:∀s x,iz T n s=some x->x.1.length<=1000000000/\eE 1000000000 x.1
 loop:∀l s x,i6 T n l s=some x->l.length+n<=1000000000->eE 1000000000 l->x.1.length<=1000000000/\eE 1000000000 x.1
 choose:∀s x,mY T n s=some x->gH 1000000000 x.1
 rep:∀s x,nk T n s=some x->gH 1000000000 x.1
def MZ(T:List Tok):∀n,n+2<=1000000000->Pa T n
 |0,_=>⟨λ_ _ h=>(by cases h),λ_ _ h=>(by cases h),λ_ _ _ h=>(by cases h),λ_ _ h=>(by cases h),λ_ _ h=>(by cases h)⟩
 |n+1,m=>by
  have d:=MZ T n ae;refine⟨λs x h=> ?_,λs x h=> ?_,λl s x h ak au=> ?_,λs x h=> ?_,λs x h=> ?_⟩
  ·rw[n6]at h;obtain⟨p,a,c⟩:=ew h;cases c;refine aa0 _ ?_;have i:gH 1000000000 (jA T s).1:=by
    unfold jA;cases a8 T (cv T s).2 4 [61]with
    |false=>exact uT _ (lC _ _)
    |true=>
     simp only[aK,n5];cases(cv T s).1.kind==4 with
     |true=>exact uT _ (lC _ _)
     |false=>
      simp only[aH];rw[gH,dF,dF,dF,eE];exact⟨⟨by simp,lC _ _,lC _ _,trivial⟩,⟨by simp,trivial⟩,⟨by simp,trivial⟩⟩
   revert a;cases(G T s.at_).kind==3 with
   |false=>intro a;cases a;exact i
   |true=>
    simp only[aK];cases(G T s.at_).text==[118,97,114]with
    |true=>intro a;cases a;exact M0 _
    |false=>
    simp only[aH];cases(G T s.at_).text==[108,101,116]with
    |true=>intro a;cases a;exact uT _ (lC _ _)
    |false=>
    simp only[aH];cases(G T s.at_).text==[105,102]with
    |true=>exactλa=>d.choose _ _ a
    |false=>
    simp only[aH];cases(G T s.at_).text==[119,104,105,108,101]with
    |true=>exactλa=>d.rep _ _ a
    |false=>
    simp only[aH];cases(G T s.at_).text==[114,101,116,117,114,110]with
    |true=>
     intro a;cases a;unfold nn;cases a8 T (ao s) 4 [59]with
     |true=>exact M0 _
     |false=>exact uT _ (lC _ _)
    |false=>
    simp only[aH];cases(G T s.at_).text==[112,114,105,110,116]with
    |true=>intro a;cases a;exact uT _ (lC _ _)
    |false=>intro a;cases a;exact i
  ·rw[iz]at h;have e:∀{l:List a6},l=[]->l.length<=1000000000/\eE 1000000000 l:=λ{l} h=>by rw[h,eE];exact⟨by simp,trivial⟩
   revert h;cases a8 T s 4 [123]with
   |false=>intro h;cases h;exact e rfl
   |true=>
    simp only[aK];split
    ·intro h;cases h;exact e rfl
    ·intro h;obtain⟨p,a,c⟩:=ew h;cases c;exact d.loop [] _ p a (by simp;omega) (by rw[eE];trivial)
  ·rw[i6]at h;revert h;cases(s.an==0&& !a8 T s 4 [125])with
   |false=>intro h;cases h;exact⟨by show l.length<=1000000000;omega,au⟩
   |true=>
    intro h;obtain⟨p,a,c⟩:=ew h;exact d.loop _ _ _ c (by simp;omega) (eE.append (d.stmt _ _ a) au)
  ·rw[mY]at h;obtain⟨p,a,c⟩:=ew h;obtain⟨bf,bo⟩:=d.block _ _ a;revert c;cases a8 T p.2 3 [101,108,115,101]with
   |false=>
    intro c;cases c;rw[gH,dF,dF];exact⟨⟨by simp,lC _ _,trivial⟩,⟨bf,bo⟩,⟨by simp,by rw[eE];trivial⟩⟩
   |true=>
    intro c;obtain⟨q,j,k⟩:=ew c;cases k;rw[gH,dF,dF];exact⟨⟨by simp,lC _ _,trivial⟩,⟨bf,bo⟩,d.block _ _ j⟩
  ·rw[nk]at h;obtain⟨p,a,c⟩:=ew h;cases c;obtain⟨bf,bo⟩:=d.block _ _ a;rw[gH,dF,dF];exact⟨⟨by simp,lC _ _,trivial⟩,⟨bf,bo⟩,⟨by simp,by rw[eE];trivial⟩⟩
section
set_option maxRecDepth 100000
noncomputable section
def wZ(o:e)(H:ad):O:=i H (o 8 [Z [114,101,99,111,114,100,32,82,32,123,32,97,58,32,105,110,116,59,32,125,32,102,117,110,99,32,109,97,105,110,40,41,32,123,32,112,114,105,110,116,32,49,59,32,125,32,103,108,111,98,97,108,32,103,58,32,91,82,93,59]] H) λai aj=>C (dG ai 0) λa7=>C (dG ai 1) λaJ=>bn aj [aa.ag,aa.ag,aa.ag] λy ap=>bn ap [J U 0,J U 0] λaf L=>aG L (aB P L 26 y a7) λR=>aG R (aB P R 29 af aJ) λT=>C (j P 29 af 0) λbc=>C (A P T 27 bc) λbd=>C (w P .eql 27 Y bd (J U 0)) λm=>S m Y T (k (j P 26 y 0)) λaH V=>S m Y V (qr (A P V 22 aH)) λab W=>S m Y W (λq=>et (bK P .empty .len [22] [ab]) (bK P W .len [22] [ab]) q) λaI aE=>S m Y aE (k (w P .eql 3 Y aI (J U 1))) λaK aF=>C (bC m (I aK) (I (.bool X))) λd=>S d Y aF (k (j P 26 y 1)) λaL v=>S d Y v (qr (A P v 23 aL)) λae x=>S d Y x (λq=>et (bK P .empty .len [23] [ae]) (bK P x .len [23] [ae]) q) λaM ak=>S d Y ak (k (w P .eql 3 Y aM (J U 1))) λaN al=>C (bC d (I aN) (I (.bool X))) λh=>S h Y al (k (j P 26 y 2)) λaO z=>S h Y z (qr (A P z 24 aO)) λah B=>S h Y B (λq=>et (bK P .empty .len [24] [ah]) (bK P B .len [24] [ah]) q) λaP am=>S h Y am (k (w P .eql 3 Y aP (J U 1))) λaQ an=>C (bC h (I aQ) (I (.bool X))) λa=>S a Y an (k (j P 26 y 1)) λaR E=>S a Y E (qr (A P E 23 aR)) λaS ao=>S a Y ao (k (bX P 23 aS (J U 0))) λaT aq=>S a Y aq (k (j P 66 aT 1)) λaU ar=>S a Y ar (k (j P 43 aU 1)) λaV F=>S a Y F (qr (A P F 3 aV)) λaW au=>S a Y au (k (w P .eql 3 Y aW (J U 1))) λaX av=>C (bC a (I aX) (I (.bool X))) λc=>S c Y av (k (j P 26 y 0)) λaY G=>S c Y G (qr (A P G 22 aY)) λaZ aw=>S c Y aw (k (bX P 22 aZ (J U 0))) λa0 ay=>S c Y ay (k (j P 41 a0 2)) λa1 K=>S c Y K (qr (A P K 3 a1)) λa2 az=>S c Y az (k (w P .eql 3 Y a2 (J U 7))) λa3 M=>C (bC c (I a3) (I (.bool X))) λn=>S n Y M (qr (A P M 26 y)) λa4 N=>S n Y N (qr (A P N 26 y)) λa5 p=>S n Y p (λq=>cZ p (o 14 [a4,a5] p) q) λa6 Q=>C (bC n (I a6) (I (.bool X))) λl=>S l Y Q (qr (A P Q 26 y)) λa8 aA=>S l Y aA (bP (.agg [aa.ag,aa.ag,aa.ag])) λa9 s=>S l Y s (λq=>cZ s (o 14 [a8,a9] s) q) λa_ aC=>S l Y aC (k (cI .not a_)) λba aD=>C (bC l (I ba) (I (.bool X))) λbb=>I (bb,aD)
def Vx(N:Nat){H:ad}{r:aa×ad}(h:wZ (al P aj) H=I r):al P aj 12 [] H=I r:=bu N (S:=λa=>wZ a H) Tryz.func12 (λ_=>by delta wZ;kernel_rfl) h
end
end
section
variable {T:List Tok}
def Hu:∀(n:Nat) (l:List bq) (s:am) (p:List bq×am),k3 T n l s=I p->p.1.length<=l.length+n
 |0,_,_,_,h=>by cases h
 |n+1,l,s,p,h=>by
  rw[k3]at h;cases a:(s.an==0&& !a8 T s 4 [125])with
  |true=>
   rw[a,aK]at h;have:=Hu n _ _ _ h;simp only[ef,cd,de]at this;omega
  |false=>rw[a,aH]at h;cases h;simp
def Lk:∀(n:Nat) (l:List bq) (s:am) (p:List bq×am),iV T n l s=I p->p.1.length<=l.length+n
 |0,_,_,_,h=>by cases h
 |n+1,l,s,p,h=>by
  rw[iV]at h;cases a:(cK T 4 [44] s).1 with
  |true=>
   rw[a,aK]at h;have:=Lk n _ _ _ h;simp only[hl,ef,cd,de]at this;omega
  |false=>rw[a,aH]at h;cases h;simp
def Ug{l:List a6}{s:am}{st:am}(h:iz T 800000000 st=I (l,s)):(fa l s).1.length<=1000000000/\eE 1000000000 (fa l s).1:=by
 unfold fa;split
 ·exact(MZ T 800000000 ae).block _ _ h
 ·rw[eE];exact⟨by simp,trivial⟩
def Qo(s:am):(iA T s).1.length<=1000000000/\eE 1000000000 (iA T s).1:=by
 unfold iA;split
 ·rename_i p a;exact Ug a
 ·rw[eE];exact⟨by simp,trivial⟩
def rk{M:Nat}(e:M<=800000000):∀(n:Nat) (g:bw) (s:am) (p:bw×am),qh g->g.bJ.length+n<=1000000000->g.globals.length+n<=1000000000->g.funcs.length+n<=1000000000->h2 T M n g s=I p->qh p.1
 |0,_,_,_,_,_,_,_,h=>by cases h
 |n+1,g,s,p,d,o,v,w,h=>by
  rw[h2]at h;cases k:(s.an==0&&(G T s.at_).kind != 0)with
  |false=>rw[k,aH]at h;cases h;exact d
  |true=>
   rw[k,aK]at h;cases aQ:a8 T s 3 [114,101,99,111,114,100]with
   |true=>
    rw[aQ,aK]at h;obtain⟨⟨i,m⟩,ap,aE⟩:=ew h;have ak:=L6 ap;obtain⟨q,f1,f2⟩:=ew ap;have l:=Hu _ _ _ _ f1;simp only[de]at l;simp only[aT,bS]at f2;obtain⟨rfl,rfl⟩:=f2;simp only at ak;refine rk e n _ _ p ?_ ?_ ?_ ?_ aE
    ·refine⟨⟨by simp;omega,λa c=> ?_⟩,d.jQ,d.f⟩;rcases Qac.1 c with c|c
     ·exact d.r.2 a c
     ·simp only[WX,Qaa,or_false]at c;rw[c];show q.1.length<=_;omega
    ·simp;omega
    ·simp only;omega
    ·simp only;omega
   |false=>
    rw[aQ,aH]at h;cases c2:a8 T s 3 [103,108,111,98,97,108]with
    |true=>
     rw[c2,aK]at h;refine rk e n _ _ p ?_ ?_ ?_ ?_ h
     ·exact⟨d.r,by simp only[gJ,ef,cd,de];omega,d.f⟩
     ·simp only[gJ];omega
     ·simp only[gJ,ef,cd,de];omega
     ·simp only[gJ];omega
    |false=>
     rw[c2,aH]at h;cases c3:a8 T s 3 [102,117,110,99]with
     |true=>
      rw[c3,aK]at h;obtain⟨⟨i,m⟩,ap,aE⟩:=ew h;have ak:=IX ap;obtain⟨q,f1,f2⟩:=ew ap;have l:q.1.length<=M+1:=by
       unfold oD at f1;revert f1;cases a8 T (bD T [40] (eJ T (ao (dM T Y g.funcs.length 16 s))).2).2 4 [41]with
       |true=>intro f1;rw[aK]at f1;cases f1;simp
       |false=>
        intro f1;rw[aH]at f1;have:=Lk _ _ _ _ f1;simp only[hl,zA,cd,de]at this;omega
      simp only[aT]at f2;have j:=congrArg Prod.fst f2;refine rk e n i m p ?_ ae ae ae aE;simp only at j;rw[<-j];unfold ih;split
      ·exact d
      ·refine⟨d.r,d.jQ,by simp;omega,λa c=> ?_⟩;rcases Qac.1 c with c|c
       ·exact d.f.2 a c
       ·simp only[WX,Qaa,or_false]at c;rw[c];exact⟨by show q.1.length<=_;omega,Qo _⟩
     |false=>
      rw[c3,aH]at h;exact rk e n g _ p d ae ae ae h
def wh:qh .none:=⟨⟨by simp[bw.none],λa c=>by cases c⟩,by simp[bw.none],by simp[bw.none],λa c=>by cases c⟩
end
def C4(a:bq):fm a a=true:=by simp[fm]
def aaB(a:dB):gL a a=true:=by simp[gL,qC C4]
def aat(a:Fn):h4 a a=true:=by simp[h4,qC C4,y4]
def MC(g:bw):jE g g=true:=by simp[jE,qC aaB,qC C4,qC aat]
def vJ:ay:=[114,101,99,111,114,100,32,82,32,123,32,97,58,32,105,110,116,59,32,125,32,102,117,110,99,32,109,97,105,110,40,41,32,123,32,112,114,105,110,116,32,49,59,32,125,32,103,108,111,98,97,108,32,103,58,32,91,82,93,59]
def Jc:Bool:=(c7 vJ).2.1==0&&(match h2 (c7 vJ).1 800000000 800000000 .none ⟨0,0,0,0⟩with
 |some (g,s)=>s.an==0&&(g.bJ.length==1&&(g.globals.length==1&&(g.funcs.length==1&&((g.bJ.all λx=>x.pos==7)&&(g.globals.all λx=>x.ci==1)))))
 |none=>X)
set_option maxRecDepth 100000 in
def SI:Jc=true:=by decide+kernel
def K7{α:Type}{l:List α}(h:l.length=1):∃a,l=[a]:=by
 rcases l with _|⟨a,_|⟨b,l⟩⟩
 ·cases h
 ·exact⟨a,rfl⟩
 ·simp at h
def Jm{H:ad}(am:fq.gd H):W (al P aj 12 [] H) λv H'=>v= .bool Y/\aw H H':=by
 refine bt (λ_=>Vx 0) ?_;have c:=SI;unfold Jc at c;simp only[lm,beq_iff_eq]at c;obtain⟨ak,c⟩:=c;split at c
 ·rename_i g s E;simp only[lm,beq_iff_eq]at c;obtain⟨ab,j,l,af,m,o⟩:=c;have p:=rk (aV _) 800000000 .none _ _ wh aC aC aC E;simp only at p;rw[wZ];refine aA (Ld am vJ (M:=800000000) (n:=800000000) (aV _) (aV _) (λ_=>E)) ?_;rintro _ H1 ⟨rv,gv,fv,rfl,d,e,i,K⟩;refine⟨K.1,?_⟩;have ev:fb vJ g s=(g,0,0):=by unfold fb lg;rw[if_pos ak,if_pos ab]
  rw[ev]at d e i ⊢;simp only at d e i ⊢;have aQ:=λH'=>d.jV H'
  have c2:=λH'=>e.hY H'
  have c3:=λH'=>i.jW H'
  rw[j]at aQ;rw[l]at c2;rw[af]at c3;have br:=d.one;have bI:=e.one;have b2:=i.one;have au:=(K.a1 (.row X 3 [[rv,gv,fv]])).a1 (.row X 2 [[J U 0,J U 0]]);have h:=(aw.push H1 (.row X 3 [[rv,gv,fv]])).a1 (.row X 2 [[J U 0,J U 0]]);have ap:(((1:Nat):Int)==1)=true:=rfl;have T:((0:Int)==0)=true:=rfl;obtain⟨a,z⟩:=K7 l;obtain⟨b,A⟩:=K7 j;rw[z]at o;rw[A]at m;simp only[xy,BC,Bool.and_true,beq_iff_eq]at m o;obtain⟨Q,ao,aG,aO,aJ,O,x,az⟩:=e.row ae;obtain⟨R,i2,aH,aS,aK,eC,z2,z3⟩:=d.row ae;obtain⟨S,N,ay⟩:=az 0 a (by rw[z];rfl);obtain⟨aI,y,v2,rfl,-⟩:=z3 0 b (by rw[A];rfl)
  obtain rfl:S=a.cells:=ay;have G:cQ.esz=4:=rfl;have F:dq.esz=3:=rfl;rw[l,G]at O;rw[j,F]at eC;rw[G]at x;rw[F]at z2;simp only[bq.cells,o,Qah]at N;rw[m,Qah]at y;have aM:=ad.aF x;have aN:=ad.aF z2;have aL:((0:Int)).toNat=0:=rfl;have B:(0:Int)<=0:=Qai _;have C:(0:Int)<((1:Nat):Int):=aC;have aq:bX P 23 gv (J U 0)=I (.ptr Q ao 0):=by rw[O];exact A3 B C
  have ar:bX P 22 rv (J U 0)=I (.ptr R i2 0):=by rw[eC];exact A2 B C
  have ou:((7:Int)==7)=true:=rfl;have V:((1:Int)==1)=true:=rfl;simp(disch:=try exact ah)only[fg,ai,ad.gU,aQ,c2,c3,ap,T,br,bI,b2,aq,ar,x,z2,N,y,ou,V];refine dZ (LH p (d.aP (ce.av h)) (e.aP (ce.av h)) (i.aP (ce.av h)) (d.aP (ce.av h)) (e.aP (ce.av h)) (i.aP (ce.av h))) ?_;rintro _ aB ⟨rfl,k⟩;refine⟨k.1,?_⟩;have aa:=k.get ((aw.push (H1.push (.row X 3 [[rv,gv,fv]])) (.row X 2 [[J U 0,J U 0]])).get (ad.a_ H1 (.row X 3 [[rv,gv,fv]])));have w:=h.trans k;rw[MC];simp(disch:=try exact ah)only[ai,aa];have q:∀(H:ad),cf dq H (λ_=>True) bw.none.bJ .ag/\cf cQ H (λ_=>True) bw.none.globals .ag/\cf dh H (λ_=>True) bw.none.funcs .ag:=λH=>⟨cf.nil,cf.nil,cf.nil⟩
  refine dZ (LH (g':= .none) p (d.aP (ce.av w)) (e.aP (ce.av w)) (i.aP (ce.av w)) (q _).1 (q _).2.1 (q _).2.2) ?_;rintro _ aE ⟨rfl,L⟩;refine⟨L.1,?_⟩;have an:jE g .none=false:=by
   unfold jE;rw[m1 g.bJ bw.none.bJ (by rw[j];simp[bw.none]),gh]
  rw[an];simp(disch:=try exact ah)only[aR,EF];exact aD.2 ⟨rfl,(au.trans k).trans L⟩
 ·cases c
def Tok.aN(t:Tok):Tok:=⟨t.kind,t.text,t.n,0⟩
def dj(T:List Tok):List Tok:=T.map Tok.aN
def am.aN(s:am):am:=⟨s.at_,s.aY,s.an,0⟩
def bY.aN(a:bY):bY:={a with pos:=0}
mutual
def az.aN:az->az
 | .mk a ks=> .mk a.aN (ep ks)
def ep:List az->List az
 |[]=>[]
 |e::es=>e.aN::ep es
end
def bR.aN(a:bR):bR:={a with pos:=0}
mutual
def a6.aN:a6->a6
 | .mk a es b c=> .mk a.aN (ep es) (eN b) (eN c)
def eN:List a6->List a6
 |[]=>[]
 |e::es=>e.aN::eN es
end
def Q4(l m:List az):ep (l++m)=ep l++ep m:=by
 induction l with
 |nil=>rfl
 |cons e l a=>simp only[mn,ep,a]
def Q6(l m:List a6):eN (l++m)=eN l++eN m:=by
 induction l with
 |nil=>rfl
 |cons e l a=>simp only[mn,eN,a]
def Q5(e:az):ep [e]=[e.aN]:=rfl
def Q7(e:a6):eN [e]=[e.aN]:=rfl
def fh{α:Type}(f:α->α)(x:V α):V α:=x.map λp=>(f p.1,p.2.aN)
section
variable {α β:Type}{f:α->α}{h:β->β}
def hA(p:α×am):fh f (I p)=I (f p.1,p.2.aN):=rfl
def jP(c:Bool)(a b:V α):fh f (bif c then a else b)=bif c then fh f a else fh f b:=by cases c<;>rfl
def hU(x:V α)(g:α×am->V β):fh h (x.bind g)=x.bind λp=>fh h (g p):=by cases x<;>rfl
def hR(x:V α)(g:α×am->V β):(fh f x).bind g=x.bind λp=>g (f p.1,p.2.aN):=by cases x<;>rfl
def RU{d e:Type}(c:Bool)(a b:d×e):(bif c then a else b).1=bif c then a.1 else b.1:=by cases c<;>rfl
def aa2{d e:Type}(c:Bool)(a b:d×e):(bif c then a else b).2=bif c then a.2 else b.2:=by cases c<;>rfl
def ox(c:Bool)(a b:am):(bif c then a else b).aN=bif c then a.aN else b.aN:=by cases c<;>rfl
def aa1(c:Bool)(a b:a6):(bif c then a else b).aN=bif c then a.aN else b.aN:=by cases c<;>rfl
end
section
variable (T:List Tok)(s:am)
def iL(i:Int):G (dj T) i=(G T i).aN:=by
 unfold G dj;rw[DE];split
 ·rfl
 ·rw[List.getElem?_map];cases T[i.toNat]? <;>rfl
def ba(t:Tok):t.aN.kind=t.kind:=rfl
def fR(t:Tok):t.aN.text=t.text:=rfl
def uV(t:Tok):t.aN.n=t.n:=rfl
def n8(t:Tok):t.aN.pos=0:=rfl
def iJ:s.aN.at_=s.at_:=rfl
def aa3:s.aN.aY=s.aY:=rfl
def mx:s.aN.an=s.an:=rfl
def Su(k:Int)(x:ay):a8 (dj T) s.aN k x=a8 T s k x:=by unfold a8;rw[iJ,mx,iL,ba,fR]
def k2(e:Int):bx (dj T) e s.aN=(bx T e s).aN:=by
 unfold bx;rw[mx];split
 ·rw[iL,iJ];rfl
 ·rfl
def jr:ao s.aN=(ao s).aN:=rfl
def La:dA s.aN=(dA s).aN:=rfl
def Sq:e4 s.aN=(e4 s).aN:=rfl
def fZ(x:ay):aS (dj T) s.aN x=aS T s x:=Su T s _ x
def h6(x:ay):bg (dj T) x s.aN=(bg T x s).aN:=by
 unfold bg;rw[fZ,jr,k2,ox]
def q5(x:ay):cl (dj T) x s.aN=(cl T x s).aN:=by
 unfold cl;rw[fZ,aa3,k2,h6,Sq,ox]
def qw(x:ay):cV (dj T) x s.aN=(cV T x s).aN:=by unfold cV;rw[h6,La]
def oQ:bv (dj T) s.aN=((bv T s).1,(bv T s).2.aN):=by
 unfold bv;rw[mx,iJ,iL,ba,fR,jr,k2];cases(s.an==0&&(G T s.at_).kind==1)<;>rfl
def Dm(x:ay):∀(n:Nat) (s:am),takeN (dj T) x n s.aN=(takeN T x n s).aN
 |0,_=>rfl
 |n+1,s=>by rw[takeN,takeN,h6,Dm x n]
def KW:∀(n:Nat) (d:Int) (s:am),eZ (dj T) n d s.aN=match eZ T n d s with
  | .inl p=> .inl (p.1,p.2.aN)
  | .inr s'=> .inr s'.aN
 |0,d,s=>by
  rw[eZ,eZ,fZ,k2];cases aS T s [91]<;>rfl
 |n+1,d,s=>by
  rw[eZ,eZ,fZ,jr,KW n];cases aS T s [91]<;>rfl
def TT(d:Int):fj (dj T) d s.aN=((fj T d s).1,(fj T d s).2.aN):=by
 unfold fj;rw[fZ,fZ,iJ,iL,fR,jr,Dm,oQ,Dm];cases(aS T s [105,110,116]||aS T s [98,111,111,108])<;>rfl
def v6:cz (dj T) s.aN=((cz T s).1,(cz T s).2.aN):=by
 unfold cz;rw[KW];cases eZ T 3 0 s with
 |inl p=>exact TT T p.2 p.1
 |inr s'=>rfl
def S7(lev:Nat)(t:Tok):ey lev t.aN=ey lev t:=rfl
def kg(a:bY)(ks:List az):(az.mk a ks).aN= .mk a.aN (ep ks):=by rw[az.aN]
def hp(a:bR)(es:List az)(b c:List a6):(a6.mk a es b c).aN= .mk a.aN (ep es) (eN b) (eN c):=by rw[a6.aN]
structure O3(n:Nat):Prop where
 ap:∀lev s,dm (dj T) n lev s.aN=fh az.aN (dm T n lev s)
 aE:∀lev e s,fL (dj T) n lev (az.aN e) s.aN=fh az.aN (fL T n lev e s)
 bB:∀s,gb (dj T) n s.aN=fh az.aN (gb T n s)
 cc:∀k s,gZ (dj T) n k s.aN=fh az.aN (gZ T n k s)
 dk:∀e s,eG (dj T) n (az.aN e) s.aN=fh az.aN (eG T n e s)
 jO:∀s,eT (dj T) n s.aN=fh az.aN (eT T n s)
 ou:∀s,dL (dj T) n s.aN=fh az.aN (dL T n s)
 sZ:∀p s,fY (dj T) n 0 s.aN=fh az.aN (fY T n p s)
 jl:∀s,fD (dj T) n s.aN=fh ep (fD T n s)
 s3:∀l s,e2 (dj T) n (ep l) s.aN=fh ep (e2 T n l s)
def Gb:∀n,O3 T n
 |0=>⟨λ_ _=>rfl,λ_ _ _=>rfl,λ_=>rfl,λ_ _=>rfl,λ_ _=>rfl,λ_=>rfl,λ_=>rfl,λ_ _=>rfl,λ_=>rfl,λ_ _=>rfl⟩
 |n+1=>by
  have i:=Gb n;refine⟨λlev s=> ?_,λlev e s=> ?_,λs=> ?_,λk s=> ?_,λe s=> ?_,λs=> ?_,λs=> ?_,λp s=> ?_,λs=> ?_,λl s=> ?_⟩
  ·rw[dm,dm];split
   ·exact i.bB s
   ·simp only[i.ap,hR,hU,i.aE]
  ·rw[fL,fL];simp only[mx,iJ,iL,S7,jr,i.ap,hR,jP,hU,hA,n8,<-i.aE,kg,ep,bY.aN]
  ·rw[gb,gb];simp only[fZ,i.cc,i.ou,hR,jP,hU,i.dk]
  ·rw[gZ,gZ];simp only[iJ,iL,fR,q5,i.ap,hR,hU,hA,n8,La,kg,ep,bY.aN]
  ·rw[eG,eG];simp only[fZ,iJ,iL,jr,oQ,q5,qw,i.ap,hR,jP,hU,hA,n8,<-i.dk,kg,ep,bY.aN]
  ·rw[eT,eT];simp only[q5,qw,i.ap,hR,hU,hA]
  ·rw[dL,dL];simp only[mx,fZ,iJ,iL,ba,fR,uV,n8,jr,oQ,v6,q5,qw,i.jO,<-i.sZ (G T s.at_).pos,i.jl,hR,jP,hU,hA,kg,ep,bY.aN]
  ·rw[fY,fY];simp only[fZ,jr,oQ,v6,h6,i.jO,hR,jP,hU,hA,kg,ep,bY.aN]
  ·rw[fD,fD];simp only[fZ,q5,qw,i.ap,hR,jP,hU,hA,<-i.s3,ep]
  ·rw[e2,e2];simp only[fZ,jr,qw,i.ap,hR,jP,hU,hA,<-i.s3,Q4,Q5]
def qD:bM (dj T) s.aN=((bM T s).1.aN,(bM T s).2.aN):=by
 unfold bM;rw[(Gb T 800000000).ap];cases dm T 800000000 0 s<;>rfl
def DC:cT (dj T) s.aN=((cT T s).1,(cT T s).2.aN):=by
 unfold cT;simp only[oQ,h6,v6]
def qR(e:az):e.aN.kind=e.kind:=by cases e;rfl
def TB(e:az):e.aN.name=e.name:=by cases e;rfl
def Ra(e:az):eS e.aN=eS e:=by unfold eS;rw[qR]
def QT:ji (dj T) s.aN=((ji T s).1.aN,(ji T s).2.aN):=by
 unfold ji;simp only[DC,h6,hp,bR.aN,ep,eN]
def S5:ju (dj T) s.aN=((ju T s).1.aN,(ju T s).2.aN):=by
 unfold ju;simp only[DC,h6,qD,hp,bR.aN,ep,eN]
def U1:iX (dj T) s.aN=((iX T s).1.aN,(iX T s).2.aN):=by
 unfold iX;rw[fZ];cases aS T s [59]<;>simp only[aK,aH,h6,qD,hp,bR.aN,ep,eN]
def Ux:ku (dj T) s.aN=((ku T s).1.aN,(ku T s).2.aN):=by
 unfold ku;simp only[h6,qD,hp,bR.aN,ep,eN]
def Q1(e:az):gI (dj T) e.aN s.aN=(gI T e s).aN:=by
 unfold gI;rw[Ra,k2,<-ox,h6]
def aaJ(e:az):lA (dj T) e.aN s.aN=((lA T e s).1.aN,(lA T e s).2.aN):=by
 unfold lA;rw[qR];cases(e.kind==4)<;>simp only[aK,aH,Q1,qD,h6,TB,hp,bR.aN,ep,eN]
def Us:fP (dj T) s.aN=((fP T s).1.aN,(fP T s).2.aN):=by
 unfold fP;simp only[qD,fZ];cases aS T (bM T s).2 [61]with
 |true=>simp only[aK,aaJ]
 |false=>
  simp only[aH,qR,k2,hp,bR.aN,ep,eN];rw[<-ox,h6]
def P5(m:a6)(p:Int):(m.at p).aN=m.aN.at 0:=by cases m;rfl
structure O2(n:Nat):Prop where
 b:∀s,dU (dj T) n s.aN=fh eN (dU T n s)
 l:∀l s,fx (dj T) n (eN l) s.aN=fh eN (fx T n l s)
 s:∀s,gC (dj T) n s.aN=fh a6.aN (gC T n s)
def Ga:∀n,O2 T n
 |0=>⟨λ_=>rfl,λ_ _=>rfl,λ_=>rfl⟩
 |n+1=>by
  have i:=Ga n;refine⟨λs=> ?_,λl s=> ?_,λs=> ?_⟩
  ·rw[dU,dU];have:=i.l [] (cl T [123] s);simp only[eN]at this;simp only[q5,this,hR,hU,hA,qw]
  ·rw[fx,fx];simp only[mx,fZ,i.s,hR,jP,hU,hA,<-i.l,Q6,Q7]
  ·rw[gC,gC];simp only[fZ,iJ,iL,fR,n8,jr,S5,QT,qD,i.b,U1,Ux,Us];rw[hU];simp only[hA,P5];rw[show∀(x:V a6),(x.bind λp=>I (p.1.aN.at 0,p.2.aN))=(fh a6.aN x).bind λp=>I (p.1.at 0,p.2)fromλx=>(hR (f:=a6.aN) x λp=>I (p.1.at 0,p.2)).symm]
   congr 1
   cases aS T s [118,97,114]||aS T s [108,101,116]with
   |true=>cases(G T (ao s).at_).text==[108,101,116]<;>simp only[aK,hA,RU,aa2,ox,aa1]<;>cases(G T s.at_).text==[108,101,116]<;>rfl
   |false=>
    simp only[aH,jP,hU,hR,hA,fZ,jr,i.b,hp,bR.aN,ep,eN]
end
def bq.aN(p:bq):bq:={p with pos:=0}
def dB.aN(r:dB):dB:=⟨r.name,r.fields.map bq.aN,0⟩
def Fn.aN(f:Fn):Fn:=⟨f.name,f.params.map bq.aN,f.has,f.cm,f.rd,eN f.body,0⟩
def bw.aN(g:bw):bw:=⟨g.bJ.map dB.aN,g.globals.map bq.aN,g.funcs.map Fn.aN⟩
section
variable (T:List Tok)(s:am)
def BR:cO (dj T) s.aN=((cO T s).1.aN,(cO T s).2.aN):=by
 unfold cO;simp only[DC,iJ,iL,n8,bq.aN]
def Hr:∀(n:Nat) (l:List bq) (s:am),gg (dj T) n (l.map bq.aN) s.aN=fh (Qal bq.aN) (gg T n l s)
 |0,_,_=>rfl
 |n+1,l,s=>by
  rw[gg,gg];simp only[mx,iJ,iL,ba,fZ,DE,k2,BR,h6,jP,hA,<-Hr n,RS,HI,GH]
def UO(n:Nat):hI (dj T) n s.aN=fh dB.aN (hI T n s):=by
 unfold hI;have:=Hr T n [] (bg T [123] (bv T s).2);simp only[GH]at this;simp only[oQ,h6,this,hR,hU,hA,iJ,iL,n8,dB.aN]
def QL:hz (dj T) s.aN=(hz T s).aN:=by
 unfold hz;simp only[h6,fZ,k2,ox]
def Li:∀(n:Nat) (l:List bq) (s:am),eV (dj T) n (l.map bq.aN) s.aN=fh (Qal bq.aN) (eV T n l s)
 |0,_,_=>rfl
 |n+1,l,s=>by
  rw[eV,eV];simp only[mx,iJ,iL,ba,fZ,DE,k2,BR,QL,<-ox,jP,hA,<-Li n,RS,HI,GH]
def UX:eW (dj T) s.aN=((eW T s).1,(eW T s).2.aN):=by
 unfold eW;rw[fZ,jr,v6];cases aS T s [58]<;>rfl
def RW(n:Nat):hB (dj T) n s.aN=fh Fn.aN (hB T n s):=by
 unfold hB;have:=Li T n [] (bg T [40] (bv T s).2);simp only[GH]at this;simp only[oQ,h6,this,UX,(Ga T n).b,hR,hU,hA,iJ,iL,n8,Fn.aN]
def SC:isRec (dj T) s.aN=isRec T s:=fZ T s _
def Sy:hV (dj T) s.aN=hV T s:=fZ T s _
def Sx:isFun (dj T) s.aN=isFun T s:=fZ T s _
def LC(N:Nat):∀(n:Nat) (g:bw) (s:am),ek (dj T) N n g.aN s.aN=fh bw.aN (ek T N n g s)
 |0,_,_=>rfl
 |n+1,g,s=>by
  rw[ek,ek];simp only[jP,hU,hA,<-LC N n];simp only[mx,iJ,iL,ba,SC,Sy,Sx,k2,jr,UO,RW,BR,h6,hR,bw.aN,DE,RS,HI,GH]
end
def bp(x:ay):bQ:= .t ⟨4,x,0,0⟩
def wd(x:ay):bQ:= .t ⟨3,x,0,0⟩
def nm(x:ay):bQ:= .t ⟨1,x,0,0⟩
def b9:bQ:= .b [32]
def qa(x:ay):bQ:=bif fB x then wd x else nm x
def rep(n:Nat)(p:bQ):List bQ:=FG n p
def cR(x:ay)(z:Int):List bQ:=rep z.toNat (bp [91])++qa x::rep z.toNat (bp [93])
def gB(k:Int):ay:=match([[43],[45],[42],[47],[37],[60],[60,61],[61,61],[33,61],[38,38],[124,124]]:List ay)[(k-14).toNat]? with
 |some x=>x
 |none=>[]
def par(c:Bool)(l:List bQ):List bQ:=bif c then bp [40]::(l++[bp [41]])else l
def h7(m:Nat)(q:Nat×List bQ):List bQ:=par (decide (q.1<m)) q.2
def fG:List (Nat×List bQ)->List bQ
 |[]=>[]
 |[q]=>q.2
 |q::r=>q.2++bp [44]::b9::fG r
def iH(a:List (Nat×List bQ)):Nat×List bQ:=a[0]?.getD (0,[])
def aX(a:List (Nat×List bQ)):Nat×List bQ:=a[1]?.getD (0,[])
def lf(a:bY)(c:List (Nat×List bQ)):List bQ:=
 if a.kind=1 then[.t ⟨2,[],a.n,0⟩]
 else if a.kind=2 then[wd (bif a.n==1 then[116,114,117,101]else[102,97,108,115,101])]
 else if a.kind=3 then wd [110,117,108,108]::b9::cR a.b5 a.ci
 else if a.kind=4 then[nm a.name]
 else if a.kind=5 then h7 7 (iH c)++[bp [46],nm a.name]
 else if a.kind=6 then h7 7 (iH c)++bp [91]::((aX c).2++[bp [93]])
 else if a.kind=7 then nm a.name::bp [40]::(fG c++[bp [41]])
 else if a.kind=8 then[wd [110,101,119],b9,nm a.b5]
 else if a.kind=9 then wd [110,101,119]::b9::bp [91]::(cR a.b5 a.ci++bp [93]::bp [40]::((iH c).2++[bp [41]]))
 else if a.kind=10 then wd [108,101,110]::bp [40]::((iH c).2++[bp [41]])
 else if a.kind=11 then[wd [114,101,97,100],bp [40],bp [41]]
 else if a.kind=12 then bp [45]::h7 6 (iH c)
 else if a.kind=13 then bp [33]::h7 6 (iH c)
 else h7 (cW a.kind) (iH c)++b9::bp (gB a.kind)::b9::h7 (cW a.kind+1) (aX c)
mutual
def be:az->List bQ
 | .mk a ks=>lf a (di ks)
def di:List az->List (Nat×List bQ)
 |[]=>[]
 |e::es=>(e.aM,be e)::di es
end
def cC(m:Nat)(e:az):List bQ:=h7 m (e.aM,be e)
def eP(a:bY)(ks:List az):be (.mk a ks)=lf a (di ks):=by rw[be]
def l1{m:Nat}{e:az}(h:¬e.aM<m):cC m e=be e:=by unfold cC h7 par;rw[decide_eq_false h];rfl
def q6{m:Nat}{e:az}(h:e.aM<m):cC m e=bp [40]::(be e++[bp [41]]):=by unfold cC h7 par;rw[decide_eq_true h];rfl
def wa(e:az):cC 0 e=be e:=l1 ae
def bk{α:Type}(f:Nat->Option α)(r:α):Prop:=∃N,∀n,N<=n->f n=I r
def bk.step{α:Type}{f g:Nat->Option α}{r:α}(e:∀n,f (n+1)=g n)(h:bk g r):bk f r:=by
 obtain⟨N,h⟩:=h;refine⟨N+1,λn a=> ?_⟩;obtain⟨m,rfl⟩:∃m,n=m+1:=⟨n-1,ae⟩;rw[e,h m ae]
def bk.bind{α β:Type}{f:Nat->Option α}{g:Nat->α->Option β}{p:α}{r:β}(h:bk f p)(k:bk (λn=>g n p) r):bk (λn=>(f n).bind (g n)) r:=by
 obtain⟨N,h⟩:=h;obtain⟨M,k⟩:=k;exact⟨max N M,λn a=>by show(f n).bind (g n)=I r;rw[h n ae];exact k n ae⟩
def bk.some{α:Type}(r:α):bk (λ_=>I r) r:=⟨0,λ_ _=>rfl⟩
def bk.eq{α:Type}{f g:Nat->Option α}{r:α}(e:∀n,f n=g n)(h:bk g r):bk f r:=by
 obtain⟨N,h⟩:=h;exact⟨N,λn a=>by rw[e,h n a]⟩
def bT(T:List Tok):Int->List Tok->Prop
 |_,[]=>True
 |a,t::r=>G T a=t/\bT T (a+1) r
def eu{T:List Tok}:∀(l m:List Tok) (a:Int),bT T a (l++m)↔bT T a l/\bT T (a+l.length) m
 |[],m,a=>by simp[bT]
 |t::l,m,a=>by
  rw[mn,bT,bT,eu l m,cd,and_assoc];have:a+1+(l.length:Int)=a+((l.length+1:Nat):Int):=ae;rw[this]
abbrev st(a o:Int):am:=⟨a,o,0,0⟩
section
variable {T:List Tok}
def fi{a o:Int}(c:0<=a)(d:a<=20000000):ao (st a o)=st (a+1) o:=by
 unfold ao st;rw[show dY (a+1)=a+1 from wrap_i64 ae ae]
def js{a o:Int}{t:Tok}(h:G T a=t)(x:ay):aS T (st a o) x=(t.kind==kw x&&t.text==x):=by
 unfold aS a8;rw[h];rfl
def SB{a o:Int}{x:ay}(h:G T a=⟨4,x,0,0⟩)(c:kw x=4)(y:ay):aS T (st a o) y=(x==y):=by
 rw[js h];by_cases e:x=y
 ·subst e;simp[c]
 ·simp[e]
def gn{a o:Int}{x:ay}{k:Int}{n:Int}(h:G T a=⟨k,x,n,0⟩)(e:k=kw x)(c:0<=a)(d:a<=20000000):bg T x (st a o)=st (a+1) o:=by
 unfold bg;rw[js h,e];simp only[beq_self_eq_true,rs,aK];exact fi c d
def oV{a o:Int}{x:ay}(h:G T a=⟨4,x,0,0⟩)(e:kw x=4)(c:0<=a)(d:a<=20000000)(i:0<=o)(j:o+1<=50):cl T x (st a o)=st (a+1) (o+1):=by
 unfold cl;rw[show decide ((50:Int)<=(st a o).aY)=X from decide_eq_false (by show¬(50:Int)<=o;omega),hi,aH,gn h e.symm c d];unfold e4 st;rw[show dY (o+1)=o+1 from wrap_i64 ae ae]
def Lb{a o:Int}(c:0<=o)(d:o<=50):dA (st a (o+1))=st a o:=by
 unfold dA st;rw[show dY (o+1-1)=o from by rw[show o+1-1=o by omega];exact wrap_i64 ae ae]
def qx{a o:Int}{x:ay}(h:G T a=⟨4,x,0,0⟩)(j:kw x=4)(c:0<=a)(d:a<=20000000)(e:0<=o)(i:o<=50):cV T x (st a (o+1))=st (a+1) o:=by
 unfold cV;rw[gn h j.symm c d,Lb e i]
def m_{a o:Int}{x:ay}(h:G T a=⟨1,x,0,0⟩)(c:0<=a)(d:a<=20000000):bv T (st a o)=(x,st (a+1) o):=by
 unfold bv;rw[h,fi c d];rfl
def vF{a o:Int}{t:Tok}(h:G T a=t){x:ay}(c:t.kind≠kw x):aS T (st a o) x=false:=by
 rw[js h];have:(t.kind==kw x)=false:=by simpa using c
 rw[this,gh]
def Dy(n:Nat)(x:ay):aL (rep n (bp x))=FG n ⟨4,x,0,0⟩:=by
 induction n with
 |zero=>rfl
 |succ n a=>unfold rep at a ⊢;rw[KL,bp,aL,<-bp,a,KL]
def KY{o:Int}{r:Tok}(e:(r.kind==4&&r.text==[91])=X):∀(k n:Nat) (d a:Int),k<=n->bT T a (FG k ⟨4,[91],0,0⟩)->G T (a+k)=r->0<=a->a+k<=20000000->eZ T n d (st a o)= .inl (d+k,st (a+k) o)
 |0,0,d,a,_,_,c,_,_=>by
  rw[eZ,js (by simpa using c)];rw[show kw [91]=4 from rfl,e];simp
 |0,n+1,d,a,_,_,c,_,_=>by
  rw[eZ,js (by simpa using c)];rw[show kw [91]=4 from rfl,e];simp
 |k+1,0,_,_,h,_,_,_,_=>ae
 |k+1,n+1,d,a,h,aq,c,i,j=>by
  rw[KL,bT]at aq;rw[eZ,SB aq.1 rfl,beq_self_eq_true,aK,fi i ae,KY e k n (d+1) (a+1) ae aq.2 (by rw[<-c];congr 1;omega) ae ae];rw[show d+1+(k:Int)=d+((k+1:Nat):Int) by omega,show a+1+(k:Int)=a+((k+1:Nat):Int) by omega]
def NI{o:Int}{x:ay}(c:kw x=4):∀(k:Nat) (a:Int),bT T a (FG k ⟨4,x,0,0⟩)->0<=a->a+k<=20000000->takeN T x k (st a o)=st (a+k) o
 |0,a,_,_,_=>by simp[takeN]
 |k+1,a,aq,d,e=>by
  rw[KL,bT]at aq;rw[takeN,gn aq.1 c.symm d ae,NI c k (a+1) aq.2 ae ae];rw[show a+1+(k:Int)=a+((k+1:Nat):Int) by omega]
def abv(x:ay)(z:Int):aL (cR x z)=FG z.toNat ⟨4,[91],0,0⟩++(⟨bif fB x then 3 else 1,x,0,0⟩::FG z.toNat ⟨4,[93],0,0⟩):=by
 unfold cR;rw[dE,Dy]
 congr 1
 unfold qa;cases fB x
 ·rw[aH,nm,aL,Dy];rfl
 ·rw[aK,wd,aL,Dy];rfl
def KD{x:ay}(h:dJ x=Y):fB x=false:=by
 unfold dJ at h;simp only[lm,Bool.not_eq_true']at h;exact h.2.2.2.1
def v7{a o z:Int}{x:ay}(h:hb x z)(aq:bT T a (aL (cR x z)))(j:0<=a)(e:a+(aL (cR x z)).length<=20000000):cz T (st a o)=((x,z),st (a+(aL (cR x z)).length) o):=by
 obtain⟨z0,z3,d⟩:=h;rw[abv]at aq e ⊢;rw[eu,bT,UV]at aq;simp only[ef,cd,UV]at e ⊢;obtain⟨t1,t2,t3⟩:=aq;have k:((⟨bif fB x then 3 else 1,x,0,0⟩:Tok).kind==4&&(⟨bif fB x then 3 else 1,x,0,0⟩:Tok).text==[91])=false:=by
  cases fB x<;>rfl
 unfold cz;rw[KY k z.toNat 3 0 a ae t1 t2 j ae];simp only
 unfold fj;have i:(0:Int)+(z.toNat:Int)=z:=ae;have c:a+(z.toNat:Int)+1+(z.toNat:Int)=a+((z.toNat+(z.toNat+1):Nat):Int):=ae;have g:=fi (a:=a+z.toNat) (o:=o) ae ae;have uV:=NI (T:=T) (o:=o) (x:=[93]) rfl z.toNat (a+z.toNat+1) t3 ae ae;rw[i];rcases d with d|rfl|rfl
 ·have l:=KD d;rw[l,aH]at t2;rw[vF (x:=[105,110,116]) t2 (show(1:Int)≠3 by decide),vF (x:=[98,111,111,108]) t2 (show(1:Int)≠3 by decide),m_ t2 ae ae,Bool.or_self,aH,uV,c]
 ·rw[js t2,show(fB [105,110,116])=Y from aC];simp only[aK,show kw [105,110,116]=3 from rfl,beq_self_eq_true,rs,QR,g,uV,c];rw[t2]
 ·rw[js t2,js t2,show(fB [98,111,111,108])=Y from aC];simp only[aK,show kw [98,111,111,108]=3 from rfl,beq_self_eq_true,rs,YZ,g,uV,c];rw[t2]
end
section
variable {T:List Tok}
def Stop(lev:Nat)(w:Tok):Prop:=(∀l,lev<=l->l<=4->ey l w=0)/\¬(w.kind=4/\(w.text=[46]\/w.text=[91]))
def Stop.up{l m:Nat}{w:Tok}(h:Stop l w)(d:l<=m):Stop m w:=⟨λk c a=>h.1 k ae a,h.2⟩
def ka(T:List Tok)(e:az)(a o bj:Int):Prop:=∀r,bk (λn=>eG T n e (st bj o)) r->bk (λn=>gb T n (st a o)) r
def sM(T:List Tok)(lev:Nat)(e:az)(a o bj:Int):Prop:=∀r,bk (λn=>fL T n lev e (st bj o)) r->bk (λn=>dm T n lev (st a o)) r
def Full(T:List Tok)(lev:Nat)(e:az)(a o bj:Int):Prop:=bk (λn=>dm T n lev (st a o)) (e,st bj o)
def sM.full{lev:Nat}{e:az}{a o bj:Int}(h:sM T lev e a o bj)(c:ey lev (G T bj)=0):Full T lev e a o bj:=by
 refine h _ (bk.step (g:=λ_=>I (e,st bj o)) (λn=> ?_) (bk.some _));rw[fL];rw[show ey lev (G T (st bj o).at_)=0 from c];rfl
def Full.ni{lev:Nat}(ak:lev<=4){e:az}{a o bj:Int}(h:Full T (lev+1) e a o bj):sM T lev e a o bj:=by
 intro r c;refine bk.step (g:=λn=>(dm T n (lev+1) (st a o)).bind λp=>fL T n lev p.1 p.2) (λn=> ?_) (h.bind c);rw[dm,if_neg ae]
def Full.down{e:az}{a o bj:Int}{m:Nat}(au:Stop m (G T bj)):∀(k lev:Nat),lev+k<=5->m<=lev->Full T (lev+k) e a o bj->Full T lev e a o bj
 |0,_,_,_,h=>h
 |k+1,lev,d,c,h=>(Full.ni ae (Full.down au k (lev+1) ae ae (by rw[show lev+1+k=lev+(k+1) by omega];exact h))).full (au.1 lev c ae)
def ka.full{e:az}{a o bj:Int}(h:ka T e a o bj)(au:Stop 5 (G T bj)):Full T 5 e a o bj:=by
 refine bk.step (g:=λn=>gb T n (st a o)) (λn=>by rw[dm,if_pos rfl]) (h _ ?_);refine bk.step (g:=λ_=>I (e,st bj o)) (λn=> ?_) (bk.some _);have d:aS T (st bj o) [46]=false:=by
  rw[js rfl];cases c:((G T bj).kind==kw [46]&&(G T bj).text==[46])with
  |false=>rfl
  |true=>
   simp only[lm,beq_iff_eq]at c;exact absurd ⟨c.1,.inl c.2⟩ au.2
 have i:aS T (st bj o) [91]=false:=by
  rw[js rfl];cases c:((G T bj).kind==kw [91]&&(G T bj).text==[91])with
  |false=>rfl
  |true=>
   simp only[lm,beq_iff_eq]at c;exact absurd ⟨c.1,.inr c.2⟩ au.2
 rw[eG,d,i];rfl
def ka.K0{e:az}{a o bj:Int}(c:aS T (st a o) [45]=X)(d:aS T (st a o) [33]=X)(h:bk (λn=>dL T n (st a o)) (e,st bj o)):ka T e a o bj:=by
 intro r i;refine bk.step (g:=λn=>(dL T n (st a o)).bind λp=>eG T n p.1 p.2) (λn=> ?_) (h.bind i);rw[gb,c,d];rfl
structure lJ(T:List Tok)(m:Nat)(e:az)(a o bj:Int):Prop where
 post:m=7->ka T e a o bj
 full:6<=m->Stop 5 (G T bj)->Full T 5 e a o bj
 ni:∀lev,lev<=4->lev+1<=max m 1->Stop (lev+1) (G T bj)->sM T lev e a o bj
def lJ.K2{e:az}{a o bj:Int}(h:ka T e a o bj)(m:Nat):lJ T m e a o bj:=
 ⟨λ_=>h,λ_ au=>h.full au,λlev c _ au=>Full.ni c (Full.down au (4-lev) (lev+1) ae (aV _) (by rw[show lev+1+(4-lev)=5 by omega];exact h.full (au.up ae)))⟩
def lJ.all{m:Nat}{e:az}{a o bj:Int}(h:lJ T m e a o bj)(au:Stop 0 (G T bj)):Full T 0 e a o bj:=
 (h.ni 0 ae ae (au.up ae)).full (au.1 0 ae ae)
def lJ.lev{m lev:Nat}{e:az}{a o bj:Int}(h:lJ T m e a o bj)(ak:lev<=5)(d:lev+1<=m)(au:Stop lev (G T bj)):Full T lev e a o bj:=by
 by_cases c:lev=5
 ·subst c;exact h.full ae au
 ·exact(h.ni lev ae ae (au.up ae)).full (au.1 lev (aV _) ae)
def lI(w:Tok):Prop:=(w.kind==4&&w.text==[40])=X
def sx{x:ay}(h:((Qaj 5).all λl=>ey l ⟨4,x,0,0⟩==0)=Y)(aU:x≠[46]/\x≠[91]):Stop 0 ⟨4,x,0,0⟩:=by
 refine⟨λl _ ak=> ?_,λa=> ?_⟩
 ·have:=Qab.1 h l (Qae.2 ae);simpa using this
 ·rcases a.2 with h|h
  ·exact aU.1 h
  ·exact aU.2 h
def qL{a o:Int}{t:Tok}(h:G T a=t)(c:t.kind≠3):∀x,kw x=3->aS T (st a o) x=false:=λx d=>vF h (by rw[d];exact c)
def k5{a o:Int}{t:Tok}(h:G T a=t)(c:t.kind≠4):∀x,kw x=4->aS T (st a o) x=false:=λx d=>vF h (by rw[d];exact c)
def fE{a o:Int}{t:Tok}(h:G T a=t){x:ay}(c:t.text≠x):aS T (st a o) x=false:=by
 rw[js h];have:(t.text==x)=false:=by simpa using c
 rw[this,hi]
def eH{a o:Int}{t:Tok}(h:G T a=t){x:ay}(c:t.kind=kw x)(d:t.text=x):aS T (st a o) x=true:=by
 rw[js h,c,d];simp
def A6{a o bj:Int}{e:az}(h:G T a=⟨4,[40],0,0⟩)(d:0<=a)(l:bj<=20000000)(m:a<=bj)(c:0<=o)(k:o+1<=50)(j:Full T 0 e (a+1) (o+1) bj)(i:G T bj=⟨4,[41],0,0⟩):bk (λn=>eT T n (st a o)) (e,st (bj+1) o):=by
 refine bk.step (g:=λn=>(dm T n 0 (st (a+1) (o+1))).bind λp=>I (p.1,cV T [41] p.2)) (λn=> ?_) (j.bind ?_)
 ·rw[eT,oV h rfl d ae c k]
 ·simp only
  rw[qx i rfl ae ae c ae];exact bk.some _
def y8:Stop 0 ⟨4,[41],0,0⟩:=sx (by decide+kernel) aC
def abk:Stop 0 ⟨4,[93],0,0⟩:=sx (by decide+kernel) aC
def abj:Stop 0 ⟨4,[44],0,0⟩:=sx (by decide+kernel) aC
def Uu{a o bj:Int}{e:az}(h:G T a=⟨4,[40],0,0⟩)(d:0<=a)(i:bj<=20000000)(j:a<=bj)(m:0<=o)(p:o+1<=50)(l:Full T 0 e (a+1) (o+1) bj)(k:G T bj=⟨4,[41],0,0⟩):ka T e a o (bj+1):=by
 refine ka.K0 (fE h aC) (fE h aC) (bk.step (g:=λn=>eT T n (st a o)) (λn=> ?_) (A6 h d i j m p l k));have c:=qL (o:=o) h aC;rw[dL,c _ rfl,c _ rfl,c _ rfl,c _ rfl,c _ rfl,c _ rfl,eH h rfl rfl,show(G T (st a o).at_).kind=4 by rw[h]];simp
end
section
variable {T:List Tok}
def gO(T:List Tok)(d m:Nat)(e:az):Prop:=∀(a o:Int),0<=a->0<=o->o+d<=50->bT T a (aL (cC m e))->a+((aL (cC m e)).length:Int)<=20000000->lI (G T (a+((aL (cC m e)).length:Int)))->lJ T m e.aN a o (a+((aL (cC m e)).length:Int))
def lb{x:ay}(h:x≠[40]):lI ⟨4,x,0,0⟩:=by
 unfold lI;have:(x==[40])=false:=by simpa using h
 simp[this]
def gO.kt{d m:Nat}{e:az}(p:m<=7)(n:e.aM=7){l:List Tok}(ak:aL (be e)=l)(H:∀(a o:Int),0<=a->0<=o->o+d<=50->bT T a l->a+(l.length:Int)<=20000000->lI (G T (a+(l.length:Int)))->ka T e.aN a o (a+(l.length:Int))):gO T d m e:=by
 intro a o i k j aq c h;rw[l1 ae,ak]at aq c h ⊢;exact lJ.K2 (H a o i k j aq c h) m
def gO.whole{d:Nat}{e:az}(h:gO T d 0 e){a o bj:Int}(c:0<=a)(l:0<=o)(k:o+d<=50)(aq:bT T a (aL (be e)))(j:bj=a+((aL (be e)).length:Int))(i:bj<=20000000)(m:lI (G T bj))(au:Stop 0 (G T bj)):Full T 0 e.aN a o bj:=by
 subst j;have:=h a o c l k (by rw[wa];exact aq) (by rw[wa];exact i) (by rw[wa];exact m);rw[wa]at this;exact this.all au
def gD(x:ay)(r:List bQ):aL (bp x::r)=⟨4,x,0,0⟩::aL r:=rfl
def kK(x:ay)(r:List bQ):aL (wd x::r)=⟨3,x,0,0⟩::aL r:=rfl
def zb(x:ay)(r:List bQ):aL (nm x::r)=⟨1,x,0,0⟩::aL r:=rfl
def gE(r:List bQ):aL (b9::r)=aL r:=rfl
def p9:aL []=[]:=rfl
def gO.par'{d m:Nat}{e:az}(l:gO T d 0 e)(ak:e.aM<m)(p:m<=7):gO T (d+1) m e:=by
 intro a o i k n aq c h;rw[q6 ak,gD,dE,gD,p9]at aq c h ⊢;rw[bT,eu,bT]at aq;simp only[cd,ef,de]at c h ⊢;have j:=l.whole (a:=a+1) (o:=o+1) ae ae ae aq.2.1 rfl ae (by rw[aq.2.2.1];exact lb aC) (by rw[aq.2.2.1];exact y8);have:=Uu aq.1 i ae ae k ae j aq.2.2.1;rw[show a+(((aL (be e)).length+(0+1)+1:Nat):Int)=a+1+((aL (be e)).length:Int)+1 by omega];exact lJ.K2 this m
def Rr{a o n:Int}(h:G T a=⟨2,[],n,0⟩)(c:0<=a)(d:a<=20000000):bk (λk=>dL T k (st a o)) (.mk {kind:=1,n:=n} [],st (a+1) o):=
 bk.step (g:=λ_=>I (.mk {kind:=1,n:=n} [],st (a+1) o)) (λk=>by
  rw[dL];simp only[h,fi c d];rfl) (bk.some _)
def oT{a o:Int}{t:Tok}(h:G T a=t)(aq:t.kind≠2):((st a o).an==0&&(G T (st a o).at_).kind==2)=false:=by
 rw[show G T (st a o).at_=t from h];have:(t.kind==2)=false:=by simpa using aq
 rw[this,hi]
def Rk{a o n:Int}{x:ay}(h:G T a=⟨3,x,0,0⟩)(e:(x=[116,114,117,101]/\n=1)\/(x=[102,97,108,115,101]/\n=0))(c:0<=a)(d:a<=20000000):bk (λk=>dL T k (st a o)) (.mk {kind:=2,n:=n} [],st (a+1) o):=
 bk.step (g:=λ_=>I (.mk {kind:=2,n:=n} [],st (a+1) o)) (λk=>by
  rw[dL,oT h (by show(3:Int)≠2;decide)];rcases e with⟨rfl,rfl⟩|⟨rfl,rfl⟩
  ·rw[eH (x:=[116,114,117,101]) h rfl rfl,QR,aK,aH,fi c d];rw[show G T (st a o).at_=_ from h];rfl
  ·rw[eH (x:=[102,97,108,115,101]) h rfl rfl,YZ,aK,aH,fi c d];rw[show G T (st a o).at_=_ from h];rfl) (bk.some _)
def Rm{a o z:Int}{x:ay}(h:G T a=⟨3,[110,117,108,108],0,0⟩)(e:hb x z)(aq:bT T (a+1) (aL (cR x z)))(c:0<=a)(d:a+1+((aL (cR x z)).length:Int)<=20000000):bk (λk=>dL T k (st a o)) (.mk {kind:=3,b5:=x,ci:=z} [],st (a+1+((aL (cR x z)).length:Int)) o):=
 bk.step (g:=λ_=>I (.mk {kind:=3,b5:=x,ci:=z} [],st (a+1+((aL (cR x z)).length:Int)) o)) (λk=>by
  rw[dL,oT h (by show(3:Int)≠2;decide),fE (x:=[116,114,117,101]) h aC,fE (x:=[102,97,108,115,101]) h aC,eH (x:=[110,117,108,108]) h rfl rfl,fi c ae,v7 e aq ae d];rw[show G T (st a o).at_=_ from h];rfl) (bk.some _)
def RB{a o:Int}{x:ay}(h:G T a=⟨1,x,0,0⟩)(d:0<=a)(j:a+1<=20000000)(i:lI (G T (a+1))):bk (λk=>dL T k (st a o)) (.mk {kind:=4,name:=x} [],st (a+1) o):=
 bk.step (g:=λ_=>I (.mk {kind:=4,name:=x} [],st (a+1) o)) (λk=>by
  have c:=qL (o:=o) h (by show(1:Int)≠3;decide);have e:aS T (st (a+1) o) [40]=false:=by rw[js rfl];exact i
  rw[dL,oT h (by show(1:Int)≠2;decide),c _ rfl,c _ rfl,c _ rfl,c _ rfl,c _ rfl,c _ rfl,k5 (x:=[40]) h (by show(1:Int)≠4;decide) rfl,m_ h d ae,e];rw[show G T (st a o).at_=_ from h];rfl) (bk.some _)
def Rn{a o:Int}(h:G T a=⟨3,[114,101,97,100],0,0⟩)(aU:G T (a+1)=⟨4,[40],0,0⟩)(d:G T (a+1+1)=⟨4,[41],0,0⟩)(e:0<=a)(j:a+3<=20000000)(c:0<=o)(i:o+1<=50):bk (λk=>dL T k (st a o)) (.mk {kind:=11} [],st (a+3) o):=
 bk.step (g:=λ_=>I (.mk {kind:=11} [],st (a+3) o)) (λk=>by
  rw[dL,oT h (by show(3:Int)≠2;decide),fE (x:=[116,114,117,101]) h aC,fE (x:=[102,97,108,115,101]) h aC,fE (x:=[110,117,108,108]) h aC,fE (x:=[110,101,119]) h aC,fE (x:=[108,101,110]) h aC,eH (x:=[114,101,97,100]) h rfl rfl,fi e ae,oV aU rfl ae ae c i,qx d rfl ae ae c ae];rw[show G T (st a o).at_=_ from h,show a+1+1+1=a+3 by omega];rfl) (bk.some _)
def Rl{a o bj:Int}{e:az}(h:G T a=⟨3,[108,101,110],0,0⟩)(c:0<=a)(i:a+1<=20000000)(d:bk (λn=>eT T n (st (a+1) o)) (e,st bj o)):bk (λk=>dL T k (st a o)) (.mk {kind:=10} [e],st bj o):=
 bk.step (g:=λn=>(eT T n (st (a+1) o)).bind λp=>I (.mk {kind:=10} [p.1],p.2)) (λk=>by
  rw[dL,oT h (by show(3:Int)≠2;decide),fE (x:=[116,114,117,101]) h aC,fE (x:=[102,97,108,115,101]) h aC,fE (x:=[110,117,108,108]) h aC,fE (x:=[110,101,119]) h aC,eH (x:=[108,101,110]) h rfl rfl,fi c ae];rw[show G T (st a o).at_=_ from h];rfl) (d.bind (bk.some _))
def Hz{a o:Int}{r:az×am}(h:G T a=⟨3,[110,101,119],0,0⟩)(c:0<=a)(e:a+1<=20000000)(d:bk (λn=>fY T n 0 (st (a+1) o)) r):bk (λk=>dL T k (st a o)) r:=
 bk.step (g:=λn=>fY T n 0 (st (a+1) o)) (λk=>by
  rw[dL,oT h (by show(3:Int)≠2;decide),fE (x:=[116,114,117,101]) h aC,fE (x:=[102,97,108,115,101]) h aC,fE (x:=[110,117,108,108]) h aC,eH (x:=[110,101,119]) h rfl rfl,fi c ae];rw[show G T (st a o).at_=_ from h];rfl) d
def RQ{a o:Int}{x:ay}(h:G T a=⟨1,x,0,0⟩)(c:0<=a)(d:a+1<=20000000):bk (λn=>fY T n 0 (st a o)) (.mk {kind:=8,b5:=x} [],st (a+1) o):=
 bk.step (g:=λ_=>I (.mk {kind:=8,b5:=x} [],st (a+1) o)) (λk=>by
  rw[fY,k5 (x:=[91]) h (by show(1:Int)≠4;decide) rfl,m_ h c ae];rfl) (bk.some _)
def RP{a o z bj:Int}{x:ay}{e:az}(h:G T a=⟨4,[91],0,0⟩)(j:hb x z)(aq:bT T (a+1) (aL (cR x z)))(d:G T (a+1+((aL (cR x z)).length:Int))=⟨4,[93],0,0⟩)(c:0<=a)(l:a+1+((aL (cR x z)).length:Int)+1<=20000000)(i:bk (λn=>eT T n (st (a+1+((aL (cR x z)).length:Int)+1) o)) (e,st bj o)):bk (λn=>fY T n 0 (st a o)) (.mk {kind:=9,b5:=x,ci:=z} [e],st bj o):=
 bk.step (g:=λn=>(eT T n (st (a+1+((aL (cR x z)).length:Int)+1) o)).bind λp=>I (.mk {kind:=9,b5:=x,ci:=z} [p.1],p.2)) (λk=>by
  rw[fY,eH (x:=[91]) h rfl rfl,aK,fi c ae,v7 j aq ae ae,gn d rfl ae ae]) (i.bind (bk.some _))
def gV:List az->List Tok
 |[]=>[]
 |e::es=>⟨4,[44],0,0⟩::(aL (be e)++gV es)
def NR:∀(es:List az) (e:az),aL (fG (di (e::es)))=aL (be e)++gV es
 |[],e=>by rw[di,di,fG,gV,yz]
 |f::es,e=>by
  rw[di,show di (f::es)=(f.aM,be f)::di es from rfl,fG]
  ·rw[dE,gD,gE,<-show di (f::es)=(f.aM,be f)::di es from rfl,NR es f,gV]
  ·simp
def Mb{a:Int}:∀{es:List az},bT T a (gV es++[⟨4,[41],0,0⟩])->lI (G T a)/\Stop 0 (G T a)
 |[],h=>by
  rw[show gV []++[⟨4,[41],0,0⟩]=[⟨4,[41],0,0⟩]from rfl,bT]at h;rw[h.1];exact⟨lb aC,y8⟩
 |e::es,h=>by
  rw[gV,mn,bT]at h;rw[h.1];exact⟨lb aC,abj⟩
def Ez{d:Nat}{o:Int}(j:0<=o)(m:o+1+d<=50):∀(es acc:List az) (a:Int),(∀e∈es,gO T d 0 e)->0<=a->bT T a (gV es++[⟨4,[41],0,0⟩])->a+((gV es).length:Int)+1<=20000000->bk (λn=>e2 T n acc (st a (o+1))) (acc++ep es,st (a+((gV es).length:Int)+1) o)
 |[],acc,a,_,c,aq,h=>by
  have k:G T a=⟨4,[41],0,0⟩:=by
   rw[show gV []++[⟨4,[41],0,0⟩]=[⟨4,[41],0,0⟩]from rfl,bT]at aq;exact aq.1
  refine bk.step (g:=λ_=>I (acc,st (a+1) o)) (λn=> ?_) ?_
  ·rw[e2,fE (x:=[44]) k aC,aH,qx k rfl c (by simp only[gV,de]at h;omega) j ae]
  ·simp only[gV,ep,yz,de];rw[show a+((0:Nat):Int)+1=a+1 by omega];exact bk.some _
 |e::es,acc,a,i,c,aq,h=>by
  rw[gV,mn,tu,bT,eu]at aq;simp only[gV,cd,ef]at h;obtain⟨s,au⟩:=Mb aq.2.2;have q:=(i e (AB)).whole (a:=a+1) (o:=o+1) ae ae ae aq.2.1 rfl ae s au;have l:=Ez j m es (acc++[e.aN]) (a+1+((aL (be e)).length:Int)) (λx v=>i x (uv _ v)) ae aq.2.2 ae;refine bk.step (g:=λn=>(dm T n 0 (st (a+1) (o+1))).bind λp=>e2 T n (acc++[p.1]) p.2) (λn=> ?_) (q.bind ?_)
  ·rw[e2,eH (x:=[44]) aq.1 rfl rfl,aK,fi c ae]
  ·simp only[gV,ep,cd,ef];rw[tu]at l;rw[show a+(((aL (be e)).length+(gV es).length+1:Nat):Int)+1=a+1+((aL (be e)).length:Int)+((gV es).length:Int)+1 by omega];exact l
end
section
variable {T:List Tok}
def AW:List ay:=[[116,114,117,101],[102,97,108,115,101],[110,117,108,108],[110,101,119],[108,101,110],[114,101,97,100]]
def qI(t:Tok):Bool:=t.kind==1||(t.kind==2||((t.kind==3&&ez t.text AW)||(t.kind==4&&ez t.text [[40],[45],[33]])))
def mL(l:List Tok):Prop:=∃t r,l=t::r/\qI t=Y/\t.pos=0
def AX{a o:Int}{t:Tok}(h:G T a=t)(aq:qI t=Y){x:ay}(i:kw x=3)(d:ez x AW=X):aS T (st a o) x=false:=by
 by_cases c:t.kind=3
 ·unfold qI at aq;rw[c]at aq;simp only[show((3:Int)==1)=X from rfl,show((3:Int)==2)=X from rfl,show((3:Int)==4)=X from rfl,show((3:Int)==3)=Y from rfl,Qaf,pq,gh,Bool.or_false]at aq;refine fE h λe=> ?_
  rw[e,d]at aq;cases aq
 ·exact qL h c _ i
def AY{a o:Int}{t:Tok}(h:G T a=t)(aq:qI t=Y){x:ay}(i:kw x=4)(d:ez x [[40],[45],[33]]=X):aS T (st a o) x=false:=by
 by_cases c:t.kind=4
 ·unfold qI at aq;rw[c]at aq;simp only[show((4:Int)==1)=X from rfl,show((4:Int)==2)=X from rfl,show((4:Int)==3)=X from rfl,show((4:Int)==4)=Y from rfl,Qaf,pq,gh]at aq;refine fE h λe=> ?_
  rw[e,d]at aq;cases aq
 ·exact k5 h c _ i
def mL.app{l m:List Tok}(h:mL l):mL (l++m):=by
 obtain⟨t,r,rfl,h⟩:=h;exact⟨t,r++m,rfl,h⟩
def qb(a:bY)(ks:List az){l:List Tok}(h:aL (lf a (di ks))=l):aL (be (.mk a ks))=l:=by rw[eP];exact h
def oY(e:az):di [e]=[(e.aM,be e)]:=by rw[di,di]
def Lc(e f:az):di [e,f]=[(e.aM,be e),(f.aM,be f)]:=by rw[di,oY]
def q7{k p:Int}(h:14<=k)(a b:az):be (.mk {kind:=k,pos:=p} [a,b])=cC (cW k) a++b9::bp (gB k)::b9::cC (cW k+1) b:=by
 rw[eP,Lc];unfold lf;simp only
 rw[if_neg ae,if_neg ae,if_neg ae,if_neg ae,if_neg ae,if_neg ae,if_neg ae,if_neg ae,if_neg ae,if_neg ae,if_neg ae,if_neg ae,if_neg ae];rfl
def q9(x:ay)(p:Int)(e:az):be (.mk {kind:=5,name:=x,pos:=p} [e])=cC 7 e++[bp [46],nm x]:=by rw[eP,oY];rfl
def q_(p:Int)(e i:az):be (.mk {kind:=6,pos:=p} [e,i])=cC 7 e++bp [91]::(be i++[bp [93]]):=by rw[eP,Lc];rfl
def oZ{k p:Int}(h:k=12\/k=13)(e:az):be (.mk {kind:=k,pos:=p} [e])=bp (bif k==12 then[45]else[33])::cC 6 e:=by
 rcases h with rfl|rfl<;>(rw[eP,oY];rfl)
def q8(x:ay)(p:Int)(l:List az):be (.mk {kind:=7,name:=x,pos:=p} l)=nm x::bp [40]::(fG (di l)++[bp [41]]):=by rw[eP];rfl
def rb(x:ay)(z p:Int)(e:az):be (.mk {kind:=9,b5:=x,ci:=z,pos:=p} [e])=wd [110,101,119]::b9::bp [91]::(cR x z++bp [93]::bp [40]::(be e++[bp [41]])):=by rw[eP,oY];rfl
def ra(p:Int)(e:az):be (.mk {kind:=10,pos:=p} [e])=wd [108,101,110]::bp [40]::(be e++[bp [41]]):=by rw[eP,oY];rfl
def BP{m:Nat}{e:az}(h:mL (aL (be e))):mL (aL (cC m e)):=by
 by_cases ak:e.aM<m
 ·rw[q6 ak,gD];exact⟨_,_,rfl,rfl,rfl⟩
 ·rw[l1 ak];exact h
def qJ{d m:Nat}{e:az}(h:cx d m e):mL (aL (be e)):=by
 induction h with
 |par _ _ _ a=>exact a
 |int=>rw[eP];exact⟨_,_,rfl,rfl,rfl⟩
 |bool _ i=>rw[eP];rcases i with rfl|rfl<;>exact⟨_,_,rfl,rfl,rfl⟩
 |null=>rw[eP];exact⟨_,_,rfl,rfl,rfl⟩
 |var=>rw[eP];exact⟨_,_,rfl,rfl,rfl⟩
 |field _ _ _ a=>rw[q9,dE];exact(BP a).app
 |item _ _ _ a _=>rw[q_,dE];exact(BP a).app
 |call=>rw[q8];exact⟨_,_,rfl,rfl,rfl⟩
 |new=>rw[eP];exact⟨_,_,rfl,rfl,rfl⟩
 |make=>rw[rb];exact⟨_,_,rfl,rfl,rfl⟩
 |len=>rw[ra];exact⟨_,_,rfl,rfl,rfl⟩
 |read=>rw[eP];exact⟨_,_,rfl,rfl,rfl⟩
 |sign _ c _ _=>
  rw[oZ c,gD];rcases c with rfl|rfl<;>exact⟨_,_,rfl,rfl,rfl⟩
 |bin _ c _ _ _ a _=>rw[q7 c,dE];exact(BP a).app
def aaQ{k:Int}(h:14<=k)(aU:k<=24):ey (cW k-1) ⟨4,gB k,0,0⟩=k/\Stop (cW k) ⟨4,gB k,0,0⟩/\lI ⟨4,gB k,0,0⟩:=by
 have n:k=14\/k=15\/k=16\/k=17\/k=18\/k=19\/k=20\/k=21\/k=22\/k=23\/k=24:=ae;have key:∀k:Int,(ey (cW k-1) ⟨4,gB k,0,0⟩==k&&((Qaj 5).all λl=>decide (l<cW k)||ey l ⟨4,gB k,0,0⟩==0)&&(gB k != [46]&&(gB k != [91]&&gB k != [40])))=Y->ey (cW k-1) ⟨4,gB k,0,0⟩=k/\Stop (cW k) ⟨4,gB k,0,0⟩/\lI ⟨4,gB k,0,0⟩:=by
  intro k c;simp only[lm,beq_iff_eq,bne_iff_ne]at c;obtain⟨⟨d,e⟩,i,j,m⟩:=c;refine⟨d,⟨λl ak o=> ?_,λa=> ?_⟩,lb m⟩
  ·have:=Qab.1 e l (Qae.2 ae);simp only[Bool.or_eq_true,decide_eq_true_eq,beq_iff_eq]at this;rcases this with h|h
   ·omega
   ·exact h
  ·rcases a.2 with a|a
   ·exact i a
   ·exact j a
 apply key;rcases n with rfl|rfl|rfl|rfl|rfl|rfl|rfl|rfl|rfl|rfl|rfl<;>decide+kernel
def ow(a:bY):(az.mk a []).aN= .mk a.aN []:=by rw[kg];rfl
def vp(a:bY)(e:az):(az.mk a [e]).aN= .mk a.aN [e.aN]:=by rw[kg];rfl
def F_(a:bY)(e f:az):(az.mk a [e,f]).aN= .mk a.aN [e.aN,f.aN]:=by rw[kg];rfl
def lY{a o bj:Int}{t:Tok}{e:az}(h:G T a=t)(c:t.kind≠4)(d:bk (λn=>dL T n (st a o)) (e,st bj o)):ka T e a o bj:=
 ka.K0 (k5 h c _ rfl) (k5 h c _ rfl) d
def UG{d m:Nat}{e:az}(h:cx d m e):gO T d m e:=by
 induction h with
 |par _ ak v E=>exact E.par' ak v
 | @int d m n p v _ _=>
  refine gO.kt v (show cW 1=7 by decide) (l:=[⟨2,[],n,0⟩]) (qb _ _ rfl) λa o s j C aq c _=> ?_
  simp only[bT,cd,de]at aq c ⊢;rw[ow];exact lY aq.1 (by show(2:Int)≠4;decide) (Rr aq.1 s ae)
 | @bool d m n p v O=>
  refine gO.kt v (show cW 2=7 by decide) (l:=[⟨3,bif n==1 then[116,114,117,101]else[102,97,108,115,101],0,0⟩]) (qb _ _ rfl) λa o s j C aq c _=> ?_
  simp only[bT,cd,de]at aq c ⊢;rw[ow];refine lY aq.1 (by show(3:Int)≠4;decide) (Rk aq.1 ?_ s ae);rcases O with rfl|rfl
  ·exact .inr ⟨rfl,rfl⟩
  ·exact .inl ⟨rfl,rfl⟩
 | @null d m x z p v H=>
  refine gO.kt v (show cW 3=7 by decide) (l:=⟨3,[110,117,108,108],0,0⟩::aL (cR x z)) (qb _ _ rfl) λa o s j C aq c _=> ?_
  simp only[bT,cd]at aq c ⊢;rw[ow,show a+(((aL (cR x z)).length+1:Nat):Int)=a+1+((aL (cR x z)).length:Int) by omega];exact lY aq.1 (by show(3:Int)≠4;decide) (Rm (x:=x) (z:=z) aq.1 H aq.2 s ae)
 | @var d m x p v H=>
  refine gO.kt v (show cW 4=7 by decide) (l:=[⟨1,x,0,0⟩]) (qb _ _ rfl) λa o s j C aq c w=> ?_
  simp only[bT,cd,de]at aq c w ⊢;rw[ow];exact lY aq.1 (by show(1:Int)≠4;decide) (RB aq.1 s ae w)
 | @field d m x p e v H _ E=>
  refine gO.kt v (show cW 5=7 by decide) (l:=aL (cC 7 e)++[⟨4,[46],0,0⟩,⟨1,x,0,0⟩]) (by rw[q9,dE];rfl) λa o s j C aq c w=> ?_
  rw[eu]at aq;simp only[bT,ef,cd,de]at aq c ⊢;obtain⟨t1,t2,t3,-⟩:=aq;have P:=(E a o s j C t1 ae (by rw[t2];exact lb aC)).post rfl;rw[vp];intro r K;refine P r (bk.step (λn=> ?_) K);rw[eG,eH (x:=[46]) t2 rfl rfl,aK,fi ae ae,m_ t3 ae ae,show G T (st (a+((aL (cC 7 e)).length:Int)) o).at_=_ from t2,show a+(((aL (cC 7 e)).length+(0+1+1):Nat):Int)=a+((aL (cC 7 e)).length:Int)+1+1 by omega];rfl
 | @item d m p e i v _ _ ih1 ih2=>
  refine gO.kt v (show cW 6=7 by decide) (l:=aL (cC 7 e)++⟨4,[91],0,0⟩::(aL (be i)++[⟨4,[93],0,0⟩])) (by rw[q_,dE,gD,dE];rfl) λa o s j C aq c w=> ?_
  rw[eu,bT,eu]at aq;simp only[bT,ef,cd,de]at aq c ⊢;obtain⟨t1,t2,t3,t4,-⟩:=aq;have P:=(ih1 a o s j C t1 ae (by rw[t2];exact lb aC)).post rfl;have F:=ih2.whole (a:=a+((aL (cC 7 e)).length:Int)+1) (o:=o+1) ae ae ae t3 rfl ae (by rw[t4];exact lb aC) (by rw[t4];exact abk);rw[F_];intro r K;refine P r (bk.step (g:=λn=>(dm T n 0 (st (a+((aL (cC 7 e)).length:Int)+1) (o+1))).bind λp=>eG T n (.mk {kind:=6} [e.aN,p.1]) (cV T [93] p.2)) (λn=> ?_) (F.bind ?_))
  ·rw[eG,fE (x:=[46]) t2 aC,eH (x:=[91]) t2 rfl rfl,aH,aK,oV t2 rfl ae ae j ae,show G T (st (a+((aL (cC 7 e)).length:Int)) o).at_=_ from t2]
  ·simp only
   rw[qx t4 rfl ae ae j ae];rw[show a+(((aL (cC 7 e)).length+((aL (be i)).length+(0+1)+1):Nat):Int)=a+((aL (cC 7 e)).length:Int)+1+((aL (be i)).length:Int)+1 by omega]at K;exact K
 | @call d m x p l v H ak E=>
  refine gO.kt v (show cW 7=7 by decide) (l:=⟨1,x,0,0⟩::⟨4,[40],0,0⟩::(aL (fG (di l))++[⟨4,[41],0,0⟩])) (by rw[q8,zb,gD,dE];rfl) λa o s j C aq c w=> ?_
  simp only[bT,ef,cd,de]at aq c ⊢;obtain⟨t1,t2,t3⟩:=aq;have A:bk (λn=>fD T n (st (a+1) o)) (ep l,st (a+1+1+((aL (fG (di l))).length:Int)+1) o):=by
   cases l with
   |nil=>
    rw[show aL (fG (di []))=[]from rfl]at t3 c ⊢;rw[zA,bT]at t3;refine bk.step (g:=λ_=>I (ep [],st (a+1+1+(([]:List Tok).length:Int)+1) o)) (λn=> ?_) (bk.some _);simp only[de]at c;rw[fD,oV t2 rfl ae ae j ae,eH (x:=[41]) t3.1 rfl rfl,aK,qx t3.1 rfl ae ae j ae];simp[ep]
   |cons e es=>
    rw[NR]at t3 c ⊢;rw[tu,eu]at t3;simp only[ef]at c ⊢;obtain⟨O,au⟩:=Mb t3.2;have F:=(E e (AB)).whole (a:=a+1+1) (o:=o+1) ae ae ae t3.1 rfl ae O au;have L:=Ez (T:=T) (d:=d) (o:=o) j ae es [e.aN] (a+1+1+((aL (be e)).length:Int)) (λy am=>E y (uv _ am)) ae t3.2 ae;obtain⟨t,r,af,ah,-⟩:=qJ (ak e (AB));have ay:G T (a+1+1)=t:=by
     have:=t3.1;rw[af,bT]at this;exact this.1
    have ar:aS T (st (a+1+1) (o+1)) [41]=false:=AY ay ah rfl aC;refine bk.step (g:=λn=>(dm T n 0 (st (a+1+1) (o+1))).bind λp=>e2 T n [p.1] p.2) (λn=> ?_) (F.bind ?_)
    ·rw[fD,oV t2 rfl ae ae j ae,ar,aH]
    ·rw[show a+1+1+(((aL (be e)).length+(gV es).length:Nat):Int)+1=a+1+1+((aL (be e)).length:Int)+((gV es).length:Int)+1 by omega];exact L
  rw[kg,show a+(((aL (fG (di l))).length+(0+1)+1+1:Nat):Int)=a+1+1+((aL (fG (di l))).length:Int)+1 by omega];refine lY t1 (by show(1:Int)≠4;decide) (bk.step (g:=λn=>(fD T n (st (a+1) o)).bind λp=>I (.mk {kind:=7,name:=x} p.1,p.2)) (λk=> ?_) (A.bind (bk.some _)));have B:=qL (o:=o) t1 (by show(1:Int)≠3;decide);rw[dL,oT t1 (by show(1:Int)≠2;decide),B _ rfl,B _ rfl,B _ rfl,B _ rfl,B _ rfl,B _ rfl,k5 (x:=[40]) t1 (by show(1:Int)≠4;decide) rfl,m_ t1 s ae,eH (x:=[40]) t2 rfl rfl];rw[show G T (st a o).at_=_ from t1];rfl
 | @new d m x p v H=>
  refine gO.kt v (show cW 8=7 by decide) (l:=[⟨3,[110,101,119],0,0⟩,⟨1,x,0,0⟩]) (qb _ _ rfl) λa o s j C aq c w=> ?_
  simp only[bT,cd,de]at aq c ⊢;rw[ow,show a+((0+1+1:Nat):Int)=a+1+1 by omega];exact lY aq.1 (by show(3:Int)≠4;decide) (Hz aq.1 s ae (RQ aq.2.1 ae ae))
 | @make d m x z p e v H _ E=>
  refine gO.kt v (show cW 9=7 by decide) (l:=⟨3,[110,101,119],0,0⟩::⟨4,[91],0,0⟩::(aL (cR x z)++⟨4,[93],0,0⟩::⟨4,[40],0,0⟩::(aL (be e)++[⟨4,[41],0,0⟩]))) (by rw[rb,kK,gE,gD,dE,gD,gD,dE];rfl) λa o s j C aq c w=> ?_
  simp only[bT,eu,ef,cd,de]at aq c ⊢;obtain⟨t1,t2,t3,t4,t5,t6,t7,-⟩:=aq;have F:=E.whole (a:=a+1+1+((aL (cR x z)).length:Int)+1+1) (o:=o+1) ae ae ae t6 rfl ae (by rw[t7];exact lb aC) (by rw[t7];exact y8);rw[vp,show a+(((aL (cR x z)).length+((aL (be e)).length+(0+1)+1+1)+1+1:Nat):Int)=a+1+1+((aL (cR x z)).length:Int)+1+1+((aL (be e)).length:Int)+1 by omega];exact lY t1 (by show(3:Int)≠4;decide) (Hz t1 s ae (RP (x:=x) (z:=z) t2 H t3 t4 ae ae (A6 t5 ae ae ae j ae F t7)))
 | @len d m p e v _ E=>
  refine gO.kt v (show cW 10=7 by decide) (l:=⟨3,[108,101,110],0,0⟩::⟨4,[40],0,0⟩::(aL (be e)++[⟨4,[41],0,0⟩])) (by rw[ra,kK,gD,dE];rfl) λa o s j C aq c w=> ?_
  simp only[bT,eu,ef,cd,de]at aq c ⊢;obtain⟨t1,t2,t3,t4,-⟩:=aq;have F:=E.whole (a:=a+1+1) (o:=o+1) ae ae ae t3 rfl ae (by rw[t4];exact lb aC) (by rw[t4];exact y8);rw[vp,show a+(((aL (be e)).length+(0+1)+1+1:Nat):Int)=a+1+1+((aL (be e)).length:Int)+1 by omega];exact lY t1 (by show(3:Int)≠4;decide) (Rl t1 s ae (A6 t2 ae ae ae j ae F t4))
 | @read d m p v=>
  refine gO.kt v (show cW 11=7 by decide) (l:=[⟨3,[114,101,97,100],0,0⟩,⟨4,[40],0,0⟩,⟨4,[41],0,0⟩]) (qb _ _ rfl) λa o s j C aq c w=> ?_
  simp only[bT,cd,de]at aq c ⊢;rw[ow,show a+((0+1+1+1:Nat):Int)=a+3 by omega];exact lY aq.1 (by show(3:Int)≠4;decide) (Rn aq.1 aq.2.1 aq.2.2.1 s ae j ae)
 | @sign d m k p e v B _ E=>
  intro a o s j C aq c w;have ad:¬(az.mk {kind:=k,pos:=p} [e]).aM<m:=by
   have:(az.mk {kind:=k,pos:=p} [e]).aM=6:=by
    rcases B with rfl|rfl
    ·exact(show cW 12=6 by decide)
    ·exact(show cW 13=6 by decide)
   omega
  rw[l1 ad,oZ B,gD]at aq c w ⊢;simp only[bT,cd]at aq c w ⊢;obtain⟨t1,t2⟩:=aq;rw[show a+(((aL (cC 6 e)).length+1:Nat):Int)=a+1+((aL (cC 6 e)).length:Int) by omega]at c w ⊢;have full:Stop 5 (G T (a+1+((aL (cC 6 e)).length:Int)))->Full T 5 (az.mk {kind:=k,pos:=p} [e]).aN a o (a+1+((aL (cC 6 e)).length:Int)):=λau=>by
   have F:=(E (a+1) (o+1) ae ae ae t2 c w).full (aV 6) au;rw[vp];refine bk.step (g:=λn=>gb T n (st a o)) (λn=>by rw[dm,if_pos rfl]) (bk.step (g:=λn=>gZ T n k (st a o)) (λn=> ?_) (bk.step (g:=λn=>(dm T n 5 (st (a+1) (o+1))).bind λq=>I (.mk {kind:=k} [q.1],dA q.2)) (λn=> ?_) (F.bind ?_)))
   ·rcases B with rfl|rfl
    ·rw[gb,eH (x:=[45]) t1 rfl rfl];rfl
    ·rw[gb,fE (x:=[45]) t1 aC,eH (x:=[33]) t1 rfl rfl];rfl
   ·have H:kw (bif k==12 then[45]else[33])=4:=by rcases B with rfl|rfl<;>rfl
    rw[gZ,show G T (st a o).at_=_ from t1,oV t1 H s ae j ae]
   ·simp only
    rw[Lb j ae];exact bk.some _
  exact⟨λh=>ae,λ_ au=>full au,λlev N _ au=>Full.ni N (Full.down au (4-lev) (lev+1) ae (aV _) (by rw[show lev+1+(4-lev)=5 by omega];exact full (au.up ae)))⟩
 | @bin d m k p x y v B Q _ _ an ao=>
  intro a o s j C aq c w;obtain⟨aD,ap⟩:=Tj B Q;obtain⟨s1,av,aw⟩:=aaQ B Q;have al:¬(az.mk {kind:=k,pos:=p} [x,y]).aM<m:=by
   show¬cW k<m;omega
  rw[l1 al,q7 B,dE,gE,gD,gE]at aq c w ⊢;rw[eu,bT]at aq;simp only[ef,cd]at c w ⊢;obtain⟨t1,t2,t3⟩:=aq;generalize aA:cW k=L at*;rw[show a+(((aL (cC L x)).length+((aL (cC (L+1) y)).length+1):Nat):Int)=a+((aL (cC L x)).length:Int)+1+((aL (cC (L+1) y)).length:Int) by omega]at c w ⊢;have aa:=an a o s j ae t1 ae (by rw[t2];exact aw);have ab:=ao (a+((aL (cC L x)).length:Int)+1) o ae j ae t3 c w;generalize aL (cC L x)=M at*;generalize aL (cC (L+1) y)=R at*;have V:Stop L (G T (a+(M.length:Int)+1+(R.length:Int)))->sM T (L-1) (az.mk {kind:=k,pos:=p} [x,y]).aN a o (a+(M.length:Int)+1+(R.length:Int)):=λau r K=>by
   have W:=aa.ni (L-1) ae ae (by rw[show L-1+1=L by omega,t2];exact av);have S:=ab.lev (lev:=L) ap (aV _) au;rw[F_]at K;refine W r (bk.step (g:=λn=>(dm T n L (st (a+(M.length:Int)+1) o)).bind λq=>fL T n (L-1) (.mk {kind:=k} [x.aN,q.1]) q.2) (λn=> ?_) (S.bind K));rw[fL,show G T (st (a+(M.length:Int)) o).at_=_ from t2,s1,show L-1+1=L by omega,fi ae ae];have ai:(k != 0)=true:=by simp only[bne_iff_ne];omega
   rw[ai];rfl
  refine⟨λh=>ae,λh=>ae,λlev N ak au=> ?_⟩;have aj:lev+1<=L:=ae;by_cases aB:lev+1=L
  ·have:=V (au.up ae);rw[show L-1=lev by omega]at this;exact this
  ·have F:=(V (au.up aj)).full (au.1 (L-1) ae ae);exact Full.ni N (Full.down au (L-1-(lev+1)) (lev+1) ae (aV _) (by rw[show lev+1+(L-1-(lev+1))=L-1 by omega];exact F))
end
section
variable {T:List Tok}
def gs{α β:Type}{x y:Option α}{f g:α->Option β}{r:β}(h:x.bind f=I r)(e:∀p,x=I p->y=I p)(d:∀p,f p=I r->g p=I r):y.bind g=I r:=by
 obtain⟨p,a,c⟩:=ct.1 h;rw[e p a];exact d p c
def e3{α:Type}{c:Bool}{a bj b cN:Option α}{r:α}(h:(bif c then a else b)=I r)(d:a=I r->bj=I r)(e:b=I r->cN=I r):(bif c then bj else cN)=I r:=by
 cases c
 ·exact e h
 ·exact d h
structure O6(T:List Tok)(n:Nat):Prop where
 ap:∀lev s r,dm T n lev s=some r->dm T (n+1) lev s=some r
 aE:∀lev e s r,fL T n lev e s=some r->fL T (n+1) lev e s=some r
 bB:∀s r,gb T n s=some r->gb T (n+1) s=some r
 cc:∀k s r,gZ T n k s=some r->gZ T (n+1) k s=some r
 dk:∀e s r,eG T n e s=some r->eG T (n+1) e s=some r
 jO:∀s r,eT T n s=some r->eT T (n+1) s=some r
 ou:∀s r,dL T n s=some r->dL T (n+1) s=some r
 sZ:∀p s r,fY T n p s=some r->fY T (n+1) p s=some r
 jl:∀s r,fD T n s=some r->fD T (n+1) s=some r
 s3:∀l s r,e2 T n l s=some r->e2 T (n+1) l s=some r
def Kv:∀n,O6 T n
 |0=>⟨λ_ _ _ h=>(by rw[dm]at h;cases h),λ_ _ _ _ h=>(by rw[fL]at h;cases h),λ_ _ h=>(by rw[gb]at h;cases h),λ_ _ _ h=>(by rw[gZ]at h;cases h),λ_ _ _ h=>(by rw[eG]at h;cases h),λ_ _ h=>(by rw[eT]at h;cases h),λ_ _ h=>(by rw[dL]at h;cases h),λ_ _ _ h=>(by rw[fY]at h;cases h),λ_ _ h=>(by rw[fD]at h;cases h),λ_ _ _ h=>(by rw[e2]at h;cases h)⟩
 |n+1=>by
  have i:=Kv n;refine⟨λlev s r h=> ?_,λlev e s r h=> ?_,λs r h=> ?_,λk s r h=> ?_,λe s r h=> ?_,λs r h=> ?_,λs r h=> ?_,λp s r h=> ?_,λs r h=> ?_,λl s r h=> ?_⟩
  ·rw[dm]at h ⊢;split at h
   ·rename_i a;rw[if_pos a];exact i.bB _ _ h
   ·rename_i a;rw[if_neg a];exact gs h (i.ap _ _) λp=>i.aE _ _ _ _
  ·rw[fL]at h ⊢;exact e3 h (λh=>gs h (i.ap _ _) λp=>i.aE _ _ _ _) id
  ·rw[gb]at h ⊢;exact e3 h (i.cc _ _ _) λh=>e3 h (i.cc _ _ _) λh=>gs h (i.ou _) λp=>i.dk _ _ _
  ·rw[gZ]at h ⊢;exact gs h (i.ap _ _) λp=>id
  ·rw[eG]at h ⊢;exact e3 h (i.dk _ _ _) λh=>e3 h (λh=>gs h (i.ap _ _) λp=>i.dk _ _ _) id
  ·rw[eT]at h ⊢;exact gs h (i.ap _ _) λp=>id
  ·rw[dL]at h ⊢;exact e3 h id λh=>e3 h id λh=>e3 h id λh=>e3 h (i.sZ _ _ _) λh=>e3 h (λh=>gs h (i.jO _) λp=>id) λh=>e3 h id λh=>e3 h (i.jO _ _) λh=>e3 h (λh=>gs h (i.jl _) λp=>id) id
  ·rw[fY]at h ⊢;exact e3 h (λh=>gs h (i.jO _) λp=>id) id
  ·rw[fD]at h ⊢;exact e3 h id λh=>gs h (i.ap _ _) λp=>i.s3 _ _ _
  ·rw[e2]at h ⊢;exact e3 h (λh=>gs h (i.ap _ _) λp=>i.s3 _ _ _) id
structure O5(T:List Tok)(n:Nat):Prop where
 b:∀s r,dU T n s=some r->dU T (n+1) s=some r
 l:∀l s r,fx T n l s=some r->fx T (n+1) l s=some r
 s:∀s r,gC T n s=some r->gC T (n+1) s=some r
def Ku:∀n,O5 T n
 |0=>⟨λ_ _ h=>(by rw[dU]at h;cases h),λ_ _ _ h=>(by rw[fx]at h;cases h),λ_ _ h=>(by rw[gC]at h;cases h)⟩
 |n+1=>by
  have i:=Ku n;refine⟨λs r h=> ?_,λl s r h=> ?_,λs r h=> ?_⟩
  ·rw[dU]at h ⊢;exact gs h (i.l _ _) λp=>id
  ·rw[fx]at h ⊢;exact e3 h (λh=>gs h (i.s _) λp=>i.l _ _ _) id
  ·rw[gC]at h ⊢;exact gs h (λp h=>e3 h id λh=>e3 h (λh=>gs h (i.b _) λb h=>e3 h (λh=>gs h (i.b _) λc=>id) id) λh=>e3 h (λh=>gs h (i.b _) λb=>id) id) λp=>id
def Kw:∀(n:Nat) (l:List bq) (s:am) (r:List bq×am),gg T n l s=I r->gg T (n+1) l s=I r
 |0,_,_,_,h=>by rw[gg]at h;cases h
 |n+1,l,s,r,h=>by
  rw[gg]at h ⊢;exact e3 h (λh=>e3 h id (Kw n _ _ _)) id
def Kx:∀(n:Nat) (l:List bq) (s:am) (r:List bq×am),eV T n l s=I r->eV T (n+1) l s=I r
 |0,_,_,_,h=>by rw[eV]at h;cases h
 |n+1,l,s,r,h=>by
  rw[eV]at h ⊢;exact e3 h (λh=>e3 h id (Kx n _ _ _)) id
def Tv{n:Nat}{s:am}{r:dB×am}(h:hI T n s=I r):hI T (n+1) s=I r:=by
 unfold hI at h ⊢;exact gs h (Kw n _ _) λp=>id
def Tu{n:Nat}{s:am}{r:Fn×am}(h:hB T n s=I r):hB T (n+1) s=I r:=by
 unfold hB at h ⊢;exact gs h (Kx n _ _) λp h=>gs h ((Ku n).b _) λb=>id
def qZ:∀(n N:Nat) (g:bw) (s:am) (r:bw×am),ek T N n g s=I r->ek T (N+1) (n+1) g s=I r
 |0,_,_,_,_,h=>by rw[ek]at h;cases h
 |n+1,N,g,s,r,h=>by
  rw[ek]at h ⊢;exact e3 h (λh=>e3 h (qZ n N _ _ _) λh=>e3 h (λh=>gs h (λp=>Tv) λp=>qZ n N _ _ _) λh=>e3 h (qZ n N _ _ _) λh=>e3 h (λh=>gs h (λp=>Tu) λp=>qZ n N _ _ _) (qZ n N _ _ _)) id
def Ky{α:Type}{f:Nat->Option α}{r:α}(h:∀n,f n=I r->f (n+1)=I r){n:Nat}(a:f n=I r):∀k,f (n+k)=I r
 |0=>a
 |k+1=>h _ (Ky h a k)
end
def pad(deep:Nat):ay:=FG (2*deep) 32
def mH:ay:=[118,97,114]
def mF:ay:=[108,101,116]
def j6:ay:=[105,102]
def kL:ay:=[101,108,115,101]
def mI:ay:=[119,104,105,108,101]
def jF:ay:=[114,101,116,117,114,110]
def mG:ay:=[112,114,105,110,116]
def nl:bQ:= .b [10]
def F(es:List az):List bQ:=match es with
 |e::_=>be e
 |[]=>[]
def y(es:List az):List bQ:=match es with
 |_::e::_=>be e
 |_=>[]
def eK(x:ay)(o:ay)(z:Int):List bQ:=nm x::bp [58]::b9::cR o z
def dC(d:ay)(B:List bQ):List bQ:=b9::bp [123]::nl::(B++[.b d,bp [125]])
def fO(a:bR)(es:List az)(B:List bQ)(c:Bool)(C:List bQ)(d:ay):List bQ:=
 if a.kind=1 then wd mH::b9::(eK a.name a.b5 a.ci++[bp [59]])
 else if a.kind=2 then wd mF::b9::(eK a.name a.b5 a.ci++b9::bp [61]::b9::(F es++[bp [59]]))
 else if a.kind=3 then nm a.name::b9::bp [61]::b9::(F es++[bp [59]])
 else if a.kind=4 then F es++b9::bp [61]::b9::(y es++[bp [59]])
 else if a.kind=7 then wd jF::((match es with
  |e::_=>b9::be e
  |[]=>[])++[bp [59]])
 else if a.kind=8 then wd mG::b9::(F es++[bp [59]])
 else if a.kind=9 then F es++[bp [59]]
 else if a.kind=6 then wd mI::b9::(F es++dC d B)
 else if a.kind=5 then wd j6::b9::(F es++(dC d B++bif c then[]else b9::wd kL::dC d C))
 else[]
mutual
def dX(deep:Nat):a6->List bQ
 | .mk a es b c=> .b (pad deep)::(fO a es (bN (deep+1) b) c.isEmpty (bN (deep+1) c) (pad deep)++[nl])
def bN(deep:Nat):List a6->List bQ
 |[]=>[]
 |s::r=>dX deep s++bN deep r
end
section
variable {T:List Tok}
def NS(s:ay)(r:List bQ):aL (.b s::r)=aL r:=rfl
def uW(r:List bQ):aL (nl::r)=aL r:=rfl
def g8(deep:Nat)(a:bR)(es:List az)(b c:List a6):aL (dX deep (.mk a es b c))=aL (fO a es (bN (deep+1) b) c.isEmpty (bN (deep+1) c) (pad deep)):=by
 rw[dX,NS,dE,uW,p9,yz]
def Dx(x o:ay)(z:Int):aL (eK x o z)=⟨1,x,0,0⟩::⟨4,[58],0,0⟩::aL (cR o z):=rfl
def zd(d:ay)(B:List bQ):aL (dC d B)=⟨4,[123],0,0⟩::(aL B++[⟨4,[125],0,0⟩]):=by
 rw[dC,gE,gD,uW,dE];rfl
def Rc(j:g_ T){a o bj:Int}{e:az}(h:Full T 0 e a o bj):bM T (st a o)=(e,st bj o):=by
 obtain⟨N,h⟩:=h;obtain⟨p,d⟩:=j (st a o);have c:=Ky (f:=λn=>dm T n 0 (st a o)) (λn k=>(Kv n).ap _ _ _ k) d N;rw[show(800000000+N)=N+800000000 from Nat.add_comm _ _]at c;have i:dm T (N+800000000) 0 (st a o)=I (e,st bj o):=h _ ae;rw[i]at c;cases c;unfold bM;rw[d]
def sw:Stop 0 ⟨4,[59],0,0⟩:=sx (by decide+kernel) aC
def Nd:Stop 0 ⟨4,[61],0,0⟩:=sx (by decide+kernel) aC
def Nc:Stop 0 ⟨4,[123],0,0⟩:=sx (by decide+kernel) aC
def k1(k:g_ T){d:Nat}{e:az}(h:cx d 0 e){a o:Int}{x:ay}(i:0<=a)(n:0<=o)(l:o+d<=50)(aq:bT T a (aL (be e)))(c:G T (a+((aL (be e)).length:Int))=⟨4,x,0,0⟩)(au:Stop 0 ⟨4,x,0,0⟩)(m:x≠[40])(j:a+((aL (be e)).length:Int)<=20000000):bM T (st a o)=(e.aN,st (a+((aL (be e)).length:Int)) o):=
 Rc k ((UG h).whole i n l aq rfl j (by rw[c];exact lb m) (by rw[c];exact au))
def DG{a o z:Int}{x y:ay}(aq:bT T a (aL (eK x y z)))(e:hb y z)(d:0<=a)(c:a+((aL (eK x y z)).length:Int)<=20000000):cT T (st a o)=((x,(y,z)),st (a+((aL (eK x y z)).length:Int)) o):=by
 rw[Dx]at aq c ⊢;simp only[bT,cd]at aq c ⊢;obtain⟨t1,t2,t3⟩:=aq;unfold cT;rw[m_ t1 d ae];simp only
 rw[gn t2 rfl ae ae,v7 e t3 ae ae];rw[show a+1+1+((aL (cR y z)).length:Int)=a+(((aL (cR y z)).length+1+1:Nat):Int) by omega]
def zC(T:List Tok)(d:Nat)(s:a6):Prop:=∀(deep:Nat) (a o:Int),0<=a->0<=o->o+d<=50->bT T a (aL (dX deep s))->a+((aL (dX deep s)).length:Int)<=20000000->aS T (st (a+((aL (dX deep s)).length:Int)) o) kL=X->bk (λn=>gC T n (st a o)) (s.aN,st (a+((aL (dX deep s)).length:Int)) o)
def vB(t:Tok):Bool:=qI t||(t.kind==3&&ez t.text [mH,mF,j6,mI,jF,mG])
def u2(l:List Tok):Prop:=∃t r,l=t::r/\vB t=Y
def mL.au{l m:List Tok}(h:mL l):u2 (l++m):=by
 obtain⟨t,r,rfl,h,-⟩:=h;exact⟨t,r++m,rfl,by unfold vB;rw[h,QR]⟩
def Sc{d:Nat}{s:a6}(h:en d s)(deep:Nat):u2 (aL (dX deep s)):=by
 cases h with
 |var=>rw[g8];exact⟨_,_,rfl,rfl⟩
 |lets=>rw[g8];exact⟨_,_,rfl,rfl⟩
 |set=>rw[g8];exact⟨_,_,rfl,rfl⟩
 |put _ a _=>rw[g8];show u2 (aL (be _++_));rw[dE];exact(qJ a).au
 |ifs=>rw[g8];exact⟨_,_,rfl,rfl⟩
 | «while» =>rw[g8];exact⟨_,_,rfl,rfl⟩
 |lh=>rw[g8];exact⟨_,_,rfl,rfl⟩
 |li=>rw[g8];exact⟨_,_,rfl,rfl⟩
 |print=>rw[g8];exact⟨_,_,rfl,rfl⟩
 |call _ a=>rw[g8];show u2 (aL (be _++_));rw[dE];exact(qJ a).au
def Sb{a o:Int}{t:Tok}(h:G T a=t)(aq:vB t=Y):aS T (st a o) [125]=X/\aS T (st a o) kL=false:=by
 unfold vB at aq;rcases Bool.or_eq_true_iff.1 aq with c|c
 ·exact⟨AY h c rfl aC,AX h c rfl aC⟩
 ·simp only[lm,beq_iff_eq]at c;refine⟨k5 h ae _ rfl,fE h λe=> ?_⟩;rw[e]at c;exact absurd c.2 aC
def M_{d:Nat}{deep:Nat}{o a:Int}:∀{l:List a6},(∀s∈l,en d s)->bT T a (aL (bN deep l)++[⟨4,[125],0,0⟩])->aS T (st a o) kL=X/\(l≠[]->aS T (st a o) [125]=X)
 |[],_,h=>by
  rw[bN,p9,zA,bT]at h;exact⟨qL h.1 (by show(4:Int)≠3;decide) _ rfl,λh=>absurd rfl h⟩
 |s::r,c,h=>by
  obtain⟨t,q,e,aq⟩:=Sc (c s (AB)) deep;rw[bN,dE,e,mn,mn,bT]at h;have:=Sb (o:=o) h.1 aq;exact⟨this.2,λ_=>this.1⟩
def Ki{d deep:Nat}{o:Int}(m:0<=o)(j:o+d<=50):∀(l acc:List a6) (a:Int),(∀s∈l,en d s)->(∀s∈l,zC T d s)->0<=a->bT T a (aL (bN deep l)++[⟨4,[125],0,0⟩])->a+((aL (bN deep l)).length:Int)+1<=20000000->bk (λn=>fx T n acc (st a o)) (acc++eN l,st (a+((aL (bN deep l)).length:Int)) o)
 |[],acc,a,_,_,i,aq,e=>by
  rw[bN,p9,zA,bT]at aq;refine bk.step (g:=λ_=>I (acc,st a o)) (λn=> ?_) ?_
  ·rw[fx,eH (x:=[125]) aq.1 rfl rfl];rfl
  ·rw[bN,p9];simp only[eN,yz,de];rw[show a+((0:Nat):Int)=a by omega];exact bk.some _
 |s::r,acc,a,h,k,i,aq,e=>by
  have w:=(M_ (o:=o) h aq).2 (by simp);rw[bN,dE]at aq e ⊢;rw[tu,eu]at aq;simp only[ef]at e ⊢;have y:=(M_ (o:=o) (λx c=>h x (uv _ c)) aq.2).1;have v:=k s (AB) deep a o i m j aq.1 ae y;have q:=Ki m j r (acc++[s.aN]) (a+((aL (dX deep s)).length:Int)) (λx c=>h x (uv _ c)) (λx c=>k x (uv _ c)) ae aq.2 ae;refine bk.step (g:=λn=>(gC T n (st a o)).bind λp=>fx T n (acc++[p.1]) p.2) (λn=> ?_) (v.bind ?_)
  ·rw[fx,w];rfl
  ·rw[tu]at q;rw[show a+(((aL (dX deep s)).length+(aL (bN deep r)).length:Nat):Int)=a+((aL (dX deep s)).length:Int)+((aL (bN deep r)).length:Int) by omega];exact q
def vk{d deep:Nat}{o a:Int}{D:ay}{l:List a6}(e:0<=o)(k:o+1+d<=50)(j:∀s∈l,en d s)(i:∀s∈l,zC T d s)(h:0<=a)(aq:bT T a (aL (dC D (bN deep l))))(c:a+((aL (dC D (bN deep l))).length:Int)<=20000000):bk (λn=>dU T n (st a o)) (eN l,st (a+((aL (dC D (bN deep l))).length:Int)) o):=by
 rw[zd]at aq c ⊢;rw[bT]at aq;simp only[cd,ef,de]at c ⊢;have L:=Ki (T:=T) (d:=d) (deep:=deep) (o:=o+1) ae ae l [] (a+1) j i ae aq.2 ae;have t2:=(eu _ _ _).1 aq.2;rw[bT]at t2;refine bk.step (g:=λn=>(fx T n [] (st (a+1) (o+1))).bind λp=>I (p.1,cV T [125] p.2)) (λn=> ?_) (L.bind ?_)
 ·rw[dU,oV aq.1 rfl h ae e ae]
 ·simp only[zA];rw[qx t2.2.1 rfl ae ae e ae,show a+(((aL (bN deep l)).length+(0+1)+1:Nat):Int)=a+1+((aL (bN deep l)).length:Int)+1 by omega];exact bk.some _
end
section
variable {T:List Tok}
def QU{a o z:Int}{x y:ay}(aq:bT T a (aL (eK x y z)++[⟨4,[59],0,0⟩]))(d:hb y z)(c:0<=a)(e:a+((aL (eK x y z)).length:Int)+1<=20000000):ji T (st a o)=(.mk {kind:=1,name:=x,b5:=y,ci:=z} [] [] [],st (a+((aL (eK x y z)).length:Int)+1) o):=by
 rw[eu,bT]at aq;unfold ji;rw[DG aq.1 d c ae,gn aq.2.1 rfl ae ae]
def S6(h:g_ T){d:Nat}{e:az}(j:cx d 0 e){a o z:Int}{x y:ay}(aq:bT T a (aL (eK x y z)++⟨4,[61],0,0⟩::(aL (be e)++[⟨4,[59],0,0⟩])))(l:hb y z)(c:0<=a)(k:0<=o)(i:o+d<=50)(m:a+((aL (eK x y z)).length:Int)+1+((aL (be e)).length:Int)+1<=20000000):ju T (st a o)=(.mk {kind:=2,name:=x,b5:=y,ci:=z} [e.aN] [] [],st (a+((aL (eK x y z)).length:Int)+1+((aL (be e)).length:Int)+1) o):=by
 rw[eu,bT,eu,bT]at aq;obtain⟨t1,t2,t3,t4,-⟩:=aq;unfold ju;rw[DG t1 l c ae];simp only
 rw[gn t2 rfl ae ae,k1 h j ae k i t3 t4 sw aC ae];simp only
 rw[gn t4 rfl ae ae]
def Uy(c:g_ T){d:Nat}{e:az}(i:cx d 0 e){a o:Int}(aq:bT T a (aL (be e)++[⟨4,[59],0,0⟩]))(k:0<=a)(j:0<=o)(h:o+d<=50)(l:a+((aL (be e)).length:Int)+1<=20000000):ku T (st a o)=(.mk {kind:=8} [e.aN] [] [],st (a+((aL (be e)).length:Int)+1) o):=by
 rw[eu,bT]at aq;unfold ku;rw[k1 c i ae j h aq.1 aq.2.1 sw aC ae];simp only
 rw[gn aq.2.1 rfl ae ae]
def U0(h:g_ T){d:Nat}{e:az}(c:cx d 0 e){a o:Int}(aq:bT T a (aL (be e)++[⟨4,[59],0,0⟩]))(m:0<=a)(k:0<=o)(i:o+d<=50)(n:a+((aL (be e)).length:Int)+1<=20000000):iX T (st a o)=(.mk {kind:=7} [e.aN] [] [],st (a+((aL (be e)).length:Int)+1) o):=by
 rw[eu,bT]at aq;obtain⟨t,r,ap,j,-⟩:=qJ c;have l:G T a=t:=by
  have:=aq.1;rw[ap,bT]at this;exact this.1
 unfold iX;rw[AY l j rfl aC,aH,k1 h c ae k i aq.1 aq.2.1 sw aC ae];simp only
 rw[gn aq.2.1 rfl ae ae]
def aaI(h:g_ T){d:Nat}{e:az}(l:cx d 0 e){a o:Int}{x:ay}(n:dJ x=Y)(aq:bT T a (⟨1,x,0,0⟩::⟨4,[61],0,0⟩::(aL (be e)++[⟨4,[59],0,0⟩])))(j:0<=a)(i:0<=o)(k:o+d<=50)(s:a+1+1+((aL (be e)).length:Int)+1<=20000000):fP T (st a o)=(.mk {kind:=3,name:=x} [e.aN] [] [],st (a+1+1+((aL (be e)).length:Int)+1) o):=by
 rw[bT,bT,eu,bT]at aq;obtain⟨t1,t2,t3,t4,-⟩:=aq;have c:aL (be (.mk {kind:=4,name:=x,pos:=0} []))=[⟨1,x,0,0⟩]:=qb _ _ rfl;have q:=k1 h (cx.var (d:=0) (m:=0) (x:=x) (p:=0) ae n) (a:=a) (o:=o) (x:=[61]) j i ae (by rw[c];exact⟨t1,trivial⟩) (by rw[c];exact t2) Nd aC (by rw[c];simp only[cd,de];omega);rw[c,ow]at q;unfold fP;rw[q];simp only[cd,de];rw[show a+((0+1:Nat):Int)=a+1 by omega,eH (x:=[61]) t2 rfl rfl,aK];unfold lA gI;rw[show eS (.mk (bY.aN {kind:=4,name:=x,pos:=0}) [])=X from rfl,aH,gn t2 rfl ae ae,k1 h l ae i k t3 t4 sw aC ae];simp only
 rw[gn t4 rfl ae ae];rfl
def UC(c:g_ T){d:Nat}{e f:az}(j:e.kind=5\/e.kind=6)(n:cx d 0 e)(p:cx d 0 f){a o:Int}(aq:bT T a (aL (be e)++⟨4,[61],0,0⟩::(aL (be f)++[⟨4,[59],0,0⟩])))(l:0<=a)(k:0<=o)(i:o+d<=50)(s:a+((aL (be e)).length:Int)+1+((aL (be f)).length:Int)+1<=20000000):fP T (st a o)=(.mk {kind:=4} [e.aN,f.aN] [] [],st (a+((aL (be e)).length:Int)+1+((aL (be f)).length:Int)+1) o):=by
 rw[eu,bT,eu,bT]at aq;obtain⟨t1,t2,t3,t4,-⟩:=aq;unfold fP;rw[k1 c n l k i t1 t2 Nd aC ae];simp only
 rw[eH (x:=[61]) t2 rfl rfl,aK];unfold lA gI;have q:eS e.aN=false:=by
  unfold eS;rw[qR];rcases j with h|h<;>rw[h]<;>rfl
 have m:(e.aN.kind==4)=false:=by
  rw[qR];rcases j with h|h<;>rw[h]<;>rfl
 rw[q,aH,gn t2 rfl ae ae,k1 c p ae k i t3 t4 sw aC ae,m,aH];simp only
 rw[gn t4 rfl ae ae]
def QW(h:g_ T){d:Nat}{e:az}(k:e.kind=7)(j:cx d 0 e){a o:Int}(aq:bT T a (aL (be e)++[⟨4,[59],0,0⟩]))(m:0<=a)(l:0<=o)(i:o+d<=50)(n:a+((aL (be e)).length:Int)+1<=20000000):fP T (st a o)=(.mk {kind:=9} [e.aN] [] [],st (a+((aL (be e)).length:Int)+1) o):=by
 rw[eu,bT]at aq;unfold fP;rw[k1 h j ae l i aq.1 aq.2.1 sw aC ae];simp only
 have c:(e.aN.kind != 7)=false:=by rw[qR,k];rfl
 rw[fE (x:=[61]) aq.2.1 aC,aH,c,hi,aH,gn aq.2.1 rfl ae ae]
def n7{a o:Int}{x:ay}{f:Nat->V a6}(h:G T a=⟨3,x,0,0⟩){s':a6}{b:Int}(d:∀n,(bif aS T (st a o) [118,97,114]||aS T (st a o) [108,101,116]then I (bif x==[108,101,116]then ju T (ao (st a o))else ji T (ao (st a o)))
  else bif aS T (st a o) [105,102]then(dU T n (bM T (ao (st a o))).2).bind λb=>bif aS T b.2 [101,108,115,101]then
   (dU T n (ao b.2)).bind λc=>I (.mk {kind:=5} [(bM T (ao (st a o))).1] b.1 c.1,c.2)else I (.mk {kind:=5} [(bM T (ao (st a o))).1] b.1 [],b.2)
  else bif aS T (st a o) [119,104,105,108,101]then(dU T n (bM T (ao (st a o))).2).bind λb=>I (.mk {kind:=6} [(bM T (ao (st a o))).1] b.1 [],b.2)
  else bif aS T (st a o) [114,101,116,117,114,110]then I (iX T (ao (st a o)))
  else bif aS T (st a o) [112,114,105,110,116]then I (ku T (ao (st a o)))
  else I (fP T (st a o)))=f n) (e:bk f (s',st b o)):bk (λn=>gC T n (st a o)) (s'.at 0,st b o):=by
 refine bk.step (g:=λn=>(f n).bind λp=>I (p.1.at 0,p.2)) (λn=> ?_) (e.bind (bk.some _));rw[gC,show G T (st a o).at_=_ from h];simp only
 rw[d n]
def Dh{a o:Int}{t:Tok}(h:G T a=t)(d:t.pos=0)(c:∀x,kw x=3->ez x AW=X->aS T (st a o) x=X){s':a6}{b:Int}(e:fP T (st a o)=(s',st b o)):bk (λn=>gC T n (st a o)) (s'.at 0,st b o):=by
 refine bk.step (g:=λn=>I (s'.at 0,st b o)) (λn=> ?_) (bk.some _);rw[gC,c _ rfl aC,c _ rfl aC,c _ rfl aC,c _ rfl aC,c _ rfl aC,c _ rfl aC,e,show G T (st a o).at_=_ from h,d];rfl
def f_{a o:Int}{x y:ay}(h:G T a=⟨3,x,0,0⟩)(c:x≠y):aS T (st a o) y=false:=fE h c
def R9(A:g_ T){d:Nat}{s:a6}(h:en d s):zC T d s:=by
 induction h with
 | @var d x y z p W w=>
  intro deep a o j k v aq i l;rw[g8,show aL (fO {kind:=1,name:=x,b5:=y,ci:=z,pos:=p} [] (bN (deep+1) []) ([]:List a6).isEmpty (bN (deep+1) []) (pad deep))=⟨3,mH,0,0⟩::(aL (eK x y z)++[⟨4,[59],0,0⟩])from by
   show aL (wd mH::b9::(eK x y z++[bp [59]]))=_;rw[kK,gE,dE];rfl]at aq i ⊢
  rw[bT]at aq;simp only[cd,ef,de]at i ⊢;rw[hp,show a+(((aL (eK x y z)).length+(0+1)+1:Nat):Int)=a+1+((aL (eK x y z)).length:Int)+1 by omega];refine n7 (s':= .mk {kind:=1,name:=x,b5:=y,ci:=z} [] [] []) aq.1 (f:=λ_=>I (.mk {kind:=1,name:=x,b5:=y,ci:=z} [] [] [],st (a+1+((aL (eK x y z)).length:Int)+1) o)) (λn=> ?_) (bk.some _);rw[eH (x:=[118,97,114]) aq.1 rfl rfl,fi j ae,QU aq.2 w ae ae];rfl
 | @lets d x y z p e W w m=>
  intro deep a o j k v aq i l;rw[g8,show aL (fO {kind:=2,name:=x,b5:=y,ci:=z,pos:=p} [e] (bN (deep+1) []) ([]:List a6).isEmpty (bN (deep+1) []) (pad deep))=⟨3,mF,0,0⟩::(aL (eK x y z)++⟨4,[61],0,0⟩::(aL (be e)++[⟨4,[59],0,0⟩]))from by
   show aL (wd mF::b9::(eK x y z++b9::bp [61]::b9::(be e++[bp [59]])))=_;rw[kK,gE,dE,gE,gD,gE,dE];rfl]at aq i ⊢
  rw[bT]at aq;simp only[cd,ef,de]at i ⊢;rw[hp,show a+(((aL (eK x y z)).length+((aL (be e)).length+(0+1)+1)+1:Nat):Int)=a+1+((aL (eK x y z)).length:Int)+1+((aL (be e)).length:Int)+1 by omega];refine n7 (s':= .mk {kind:=2,name:=x,b5:=y,ci:=z} [e.aN] [] []) aq.1 (f:=λ_=>I (.mk {kind:=2,name:=x,b5:=y,ci:=z} [e.aN] [] [],st (a+1+((aL (eK x y z)).length:Int)+1+((aL (be e)).length:Int)+1) o)) (λn=> ?_) (bk.some _);rw[eH (x:=[108,101,116]) aq.1 rfl rfl,YZ,aK,fi j ae,S6 A m aq.2 w ae k v ae];rfl
 | @set d x p e W m=>
  intro deep a o j k v aq i l;rw[g8,show aL (fO {kind:=3,name:=x,pos:=p} [e] (bN (deep+1) []) ([]:List a6).isEmpty (bN (deep+1) []) (pad deep))=⟨1,x,0,0⟩::⟨4,[61],0,0⟩::(aL (be e)++[⟨4,[59],0,0⟩])from by
   show aL (nm x::b9::bp [61]::b9::(be e++[bp [59]]))=_;rw[zb,gE,gD,gE,dE];rfl]at aq i ⊢
  have ai:=aq;rw[bT]at aq;simp only[cd,ef,de]at i ⊢;rw[hp,show a+(((aL (be e)).length+(0+1)+1+1:Nat):Int)=a+1+1+((aL (be e)).length:Int)+1 by omega];exact Dh aq.1 rfl (λy w _=>qL aq.1 (by show(1:Int)≠3;decide) y w) (aaI A m W ai j k v ae)
 | @put d p e f Q m af=>
  intro deep a o j k v aq i l;rw[g8,show aL (fO {kind:=4,pos:=p} [e,f] (bN (deep+1) []) ([]:List a6).isEmpty (bN (deep+1) []) (pad deep))=aL (be e)++⟨4,[61],0,0⟩::(aL (be f)++[⟨4,[59],0,0⟩])from by
   show aL (be e++b9::bp [61]::b9::(be f++[bp [59]]))=_;rw[dE,gE,gD,gE,dE];rfl]at aq i ⊢
  obtain⟨t,r,ap,P,V⟩:=qJ m;have F:G T a=t:=by
   have:=((eu _ _ _).1 aq).1;rw[ap,bT]at this;exact this.1
  have S:(G T a).pos=0:=by rw[F];exact V
  simp only[cd,ef,de]at i ⊢;rw[hp,show a+(((aL (be e)).length+((aL (be f)).length+(0+1)+1):Nat):Int)=a+((aL (be e)).length:Int)+1+((aL (be f)).length:Int)+1 by omega];exact Dh rfl S (λy w R=>AX F P w R) (UC A Q m af aq j k v ae)
 | @ifs d p e b c m O ab aa aj=>
  intro deep a o j k v aq i l;have N:aL (fO {kind:=5,pos:=p} [e] (bN (deep+1) b) c.isEmpty (bN (deep+1) c) (pad deep))=⟨3,j6,0,0⟩::(aL (be e)++(aL (dC (pad deep) (bN (deep+1) b))++bif c.isEmpty then[]else⟨3,kL,0,0⟩::aL (dC (pad deep) (bN (deep+1) c)))):=by
   show aL (wd j6::b9::(be e++(dC (pad deep) (bN (deep+1) b)++bif c.isEmpty then[]else b9::wd kL::dC (pad deep) (bN (deep+1) c))))=_;rw[kK,gE,dE,dE];cases c.isEmpty<;>rfl
  rw[g8,N]at aq i l ⊢;rw[bT,eu,eu]at aq;simp only[cd,ef]at i l ⊢;obtain⟨t1,t2,t3,t4⟩:=aq;have hJ:G T (a+1+((aL (be e)).length:Int))=⟨4,[123],0,0⟩:=by rw[zd,bT]at t3;exact t3.1
  have q:=k1 A m (a:=a+1) (o:=o) ae k ae t2 hJ Nc aC ae;have B:=vk (T:=T) (d:=d) (o:=o) k ae O aa ae t3 ae;generalize aL (dC (pad deep) (bN (deep+1) b))=E at*;generalize aL (be e)=le at*;have K:aS T (st a o) [118,97,114]=false:=f_ t1 aC;have L:aS T (st a o) [108,101,116]=false:=f_ t1 aC;have M:aS T (st a o) [105,102]=true:=eH t1 rfl rfl;rw[hp];cases H:c.isEmpty with
  |true=>
   rw[H,aK,de]at i l;rw[aK,de];have ad:c=[]:=List.isEmpty_iff.1 H;subst ad;rw[show a+((le.length+(E.length+0)+1:Nat):Int)=a+1+(le.length:Int)+(E.length:Int) by omega]at l ⊢;refine n7 (s':= .mk {kind:=5} [e.aN] (eN b) []) t1 (f:=λn=>(dU T n (st (a+1+(le.length:Int)) o)).bind λb=>bif aS T b.2 [101,108,115,101]then(dU T n (ao b.2)).bind λc=>I (.mk {kind:=5} [e.aN] b.1 c.1,c.2)else I (.mk {kind:=5} [e.aN] b.1 [],b.2)) (λn=> ?_) (B.bind ?_)
   ·rw[K,L,M,fi j ae,q];rfl
   ·simp only
    rw[show aS T (st (a+1+(le.length:Int)+(E.length:Int)) o) [101,108,115,101]=X from l];simp only[aH];exact bk.some _
  |false=>
   rw[H,aH]at t4;rw[H,aH,cd]at i l;rw[aH,cd];rw[bT]at t4;have C:=vk (T:=T) (d:=d) (o:=o) k ae ab aj ae t4.2 ae;generalize aL (dC (pad deep) (bN (deep+1) c))=lc at*;rw[show a+((le.length+(E.length+(lc.length+1))+1:Nat):Int)=a+1+(le.length:Int)+(E.length:Int)+1+(lc.length:Int) by omega];refine n7 (s':= .mk {kind:=5} [e.aN] (eN b) (eN c)) t1 (f:=λn=>(dU T n (st (a+1+(le.length:Int)) o)).bind λb=>bif aS T b.2 [101,108,115,101]then(dU T n (ao b.2)).bind λc=>I (.mk {kind:=5} [e.aN] b.1 c.1,c.2)else I (.mk {kind:=5} [e.aN] b.1 [],b.2)) (λn=> ?_) (B.bind ?_)
   ·rw[K,L,M,fi j ae,q];rfl
   ·simp only
    rw[eH (x:=[101,108,115,101]) t4.1 rfl rfl];simp only[aK];rw[fi ae ae];exact C.bind (bk.some _)
 | @«while» d p e b m O aa=>
  intro deep a o j k v aq i l;have N:aL (fO {kind:=6,pos:=p} [e] (bN (deep+1) b) ([]:List a6).isEmpty (bN (deep+1) []) (pad deep))=⟨3,mI,0,0⟩::(aL (be e)++aL (dC (pad deep) (bN (deep+1) b))):=by
   show aL (wd mI::b9::(be e++dC (pad deep) (bN (deep+1) b)))=_;rw[kK,gE,dE]
  rw[g8,N]at aq i l ⊢;rw[bT,eu]at aq;simp only[cd,ef]at i l ⊢;obtain⟨t1,t2,t3⟩:=aq;have hJ:G T (a+1+((aL (be e)).length:Int))=⟨4,[123],0,0⟩:=by rw[zd,bT]at t3;exact t3.1
  have q:=k1 A m (a:=a+1) (o:=o) ae k ae t2 hJ Nc aC ae;have B:=vk (T:=T) (d:=d) (o:=o) k ae O aa ae t3 ae;generalize aL (dC (pad deep) (bN (deep+1) b))=E at*;generalize aL (be e)=le at*;have K:aS T (st a o) [118,97,114]=false:=f_ t1 aC;have L:aS T (st a o) [108,101,116]=false:=f_ t1 aC;have M:aS T (st a o) [105,102]=false:=f_ t1 aC;have ak:aS T (st a o) [119,104,105,108,101]=true:=eH t1 rfl rfl;rw[hp,show a+((le.length+E.length+1:Nat):Int)=a+1+(le.length:Int)+(E.length:Int) by omega];refine n7 (s':= .mk {kind:=6} [e.aN] (eN b) []) t1 (f:=λn=>(dU T n (st (a+1+(le.length:Int)) o)).bind λb=>I (.mk {kind:=6} [e.aN] b.1 [],b.2)) (λn=> ?_) (B.bind (bk.some _))
  rw[K,L,M,ak,fi j ae,q];rfl
 | @lh d p=>
  intro deep a o j k v aq i l;rw[g8,show aL (fO {kind:=7,pos:=p} [] (bN (deep+1) []) ([]:List a6).isEmpty (bN (deep+1) []) (pad deep))=[⟨3,jF,0,0⟩,⟨4,[59],0,0⟩]from rfl]at aq i ⊢;simp only[bT,cd,de]at aq i ⊢;rw[hp,show a+((0+1+1:Nat):Int)=a+1+1 by omega];refine n7 (s':= .mk {kind:=7} [] [] []) aq.1 (f:=λ_=>I (.mk {kind:=7} [] [] [],st (a+1+1) o)) (λn=> ?_) (bk.some _);have ah:iX T (st (a+1) o)=(.mk {kind:=7} [] [] [],st (a+1+1) o):=by
   unfold iX;rw[eH (x:=[59]) aq.2.1 rfl rfl,aK,gn aq.2.1 rfl ae ae]
  rw[show aS T (st a o) [118,97,114]=X from f_ aq.1 aC,show aS T (st a o) [108,101,116]=X from f_ aq.1 aC,show aS T (st a o) [105,102]=X from f_ aq.1 aC,show aS T (st a o) [119,104,105,108,101]=X from f_ aq.1 aC,eH (x:=[114,101,116,117,114,110]) aq.1 rfl rfl,fi j ae,ah];rfl
 | @li d p e m=>
  intro deep a o j k v aq i l;rw[g8,show aL (fO {kind:=7,pos:=p} [e] (bN (deep+1) []) ([]:List a6).isEmpty (bN (deep+1) []) (pad deep))=⟨3,jF,0,0⟩::(aL (be e)++[⟨4,[59],0,0⟩])from by
   show aL (wd jF::(b9::be e++[bp [59]]))=_;rw[kK,mn,gE,dE];rfl]at aq i ⊢
  rw[bT]at aq;simp only[cd,ef,de]at i ⊢;rw[hp,show a+(((aL (be e)).length+(0+1)+1:Nat):Int)=a+1+((aL (be e)).length:Int)+1 by omega];refine n7 (s':= .mk {kind:=7} [e.aN] [] []) aq.1 (f:=λ_=>I (.mk {kind:=7} [e.aN] [] [],st (a+1+((aL (be e)).length:Int)+1) o)) (λn=> ?_) (bk.some _);rw[show aS T (st a o) [118,97,114]=X from f_ aq.1 aC,show aS T (st a o) [108,101,116]=X from f_ aq.1 aC,show aS T (st a o) [105,102]=X from f_ aq.1 aC,show aS T (st a o) [119,104,105,108,101]=X from f_ aq.1 aC,eH (x:=[114,101,116,117,114,110]) aq.1 rfl rfl,fi j ae,U0 A m aq.2 ae k v ae]
  rfl
 | @print d p e m=>
  intro deep a o j k v aq i l;rw[g8,show aL (fO {kind:=8,pos:=p} [e] (bN (deep+1) []) ([]:List a6).isEmpty (bN (deep+1) []) (pad deep))=⟨3,mG,0,0⟩::(aL (be e)++[⟨4,[59],0,0⟩])from by
   show aL (wd mG::b9::(be e++[bp [59]]))=_;rw[kK,gE,dE];rfl]at aq i ⊢
  rw[bT]at aq;simp only[cd,ef,de]at i ⊢;rw[hp,show a+(((aL (be e)).length+(0+1)+1:Nat):Int)=a+1+((aL (be e)).length:Int)+1 by omega];refine n7 (s':= .mk {kind:=8} [e.aN] [] []) aq.1 (f:=λ_=>I (.mk {kind:=8} [e.aN] [] [],st (a+1+((aL (be e)).length:Int)+1) o)) (λn=> ?_) (bk.some _);rw[show aS T (st a o) [118,97,114]=X from f_ aq.1 aC,show aS T (st a o) [108,101,116]=X from f_ aq.1 aC,show aS T (st a o) [105,102]=X from f_ aq.1 aC,show aS T (st a o) [119,104,105,108,101]=X from f_ aq.1 aC,show aS T (st a o) [114,101,116,117,114,110]=X from f_ aq.1 aC,eH (x:=[112,114,105,110,116]) aq.1 rfl rfl,fi j ae,Uy A m aq.2 ae k v ae]
  rfl
 | @call d p e Q m=>
  intro deep a o j k v aq i l;rw[g8,show aL (fO {kind:=9,pos:=p} [e] (bN (deep+1) []) ([]:List a6).isEmpty (bN (deep+1) []) (pad deep))=aL (be e)++[⟨4,[59],0,0⟩]from by
   show aL (be e++[bp [59]])=_;rw[dE];rfl]at aq i ⊢
  obtain⟨t,r,ap,P,V⟩:=qJ m;have F:G T a=t:=by
   have:=((eu _ _ _).1 aq).1;rw[ap,bT]at this;exact this.1
  have S:(G T a).pos=0:=by rw[F];exact V
  simp only[cd,ef,de]at i ⊢;rw[hp,show a+(((aL (be e)).length+(0+1):Nat):Int)=a+((aL (be e)).length:Int)+1 by omega];exact Dh rfl S (λy w R=>AX F P w R) (QW A Q m aq j k v ae)
end
def sE:ay:=[114,101,99,111,114,100]
def sD:ay:=[103,108,111,98,97,108]
def n9:ay:=[102,117,110,99]
def dw(p:bq):List bQ:=eK p.name p.b5 p.ci
def ik:List bq->List bQ
 |[]=>[]
 |p::r=> .b [32,32]::(dw p++bp [59]::nl::ik r)
def jy:List bq->List bQ
 |[]=>[]
 |p::r=>bp [44]::b9::(dw p++jy r)
def hk:List bq->List bQ
 |[]=>[]
 |p::r=>dw p++jy r
def o0(r:dB):List bQ:=wd sE::b9::nm r.name::b9::bp [123]::nl::(ik r.fields++[bp [125],nl])
def oX(p:bq):List bQ:=wd sD::b9::(dw p++[bp [59],nl])
def oW(f:Fn):List bQ:=wd n9::b9::nm f.name::bp [40]::(hk f.params++bp [41]::((bif f.has then bp [58]::b9::cR f.cm f.rd else[])++(dC [] (bN 1 f.body)++[nl])))
inductive dO where
 |r (x:dB)
 |g (x:bq)
 |f (x:Fn)
def gS:dO->List bQ
 | .r x=>o0 x
 | .g x=>oX x
 | .f x=>oW x
def bZ:List dO->List bQ
 |[]=>[]
 |i::l=>gS i++bZ l
def bw.add(g:bw):dO->bw
 | .r x=>{g with bJ:=g.bJ++[x]}
 | .g x=>{g with globals:=g.globals++[x]}
 | .f x=>{g with funcs:=g.funcs++[x]}
def bw.fU(g:bw):List dO->bw
 |[]=>g
 |i::l=>(g.add i).fU l
structure fd(p:bq):Prop where
 n:dJ p.name=true
 o:hb p.b5 p.ci
structure lL(r:dB):Prop where
 n:dJ r.name=true
 l:r.fields.length<=8
 f:∀p∈r.fields,fd p
structure mT(f:Fn):Prop where
 n:dJ f.name=true
 l:f.params.length<=6
 p:∀p∈f.params,fd p
 r:(f.has=true/\hb f.cm f.rd)\/(f.has=false/\f.cm=[]/\f.rd=0)
 b:∃d:Nat,d+1<=50/\∀s∈f.body,en d s
def qj:dO->Prop
 | .r x=>lL x
 | .g x=>fd x
 | .f x=>mT x
section
variable {T:List Tok}
def BT{a o:Int}{p:bq}(e:fd p)(aq:bT T a (aL (dw p)))(d:0<=a)(c:a+((aL (dw p)).length:Int)<=20000000):cO T (st a o)=(p.aN,st (a+((aL (dw p)).length:Int)) o)/\(G T a).kind=1:=by
 unfold dw at aq c ⊢;have q:=DG aq e.o d c (o:=o);rw[Dx,bT]at aq;unfold cO;rw[q,show G T (st a o).at_=_ from aq.1];exact⟨rfl,rfl⟩
def gt:List bq->List Tok
 |[]=>[]
 |p::r=>aL (dw p)++⟨4,[59],0,0⟩::gt r
def NT:∀l:List bq,aL (ik l)=gt l
 |[]=>rfl
 |p::r=>by rw[ik,NS,dE,gD,uW,NT r,gt]
def Hy{o:Int}:∀(l acc:List bq) (a:Int),(∀p∈l,fd p)->acc.length+l.length<=8->0<=a->bT T a (gt l++[⟨4,[125],0,0⟩])->a+((gt l).length:Int)+1<=20000000->bk (λn=>gg T n acc (st a o)) (acc++l.map bq.aN,st (a+((gt l).length:Int)) o)
 |[],acc,a,_,_,c,aq,d=>by
  rw[gt,zA,bT]at aq;refine bk.step (g:=λ_=>I (acc,st a o)) (λn=> ?_) ?_
  ·rw[gg,eH (x:=[125]) aq.1 rfl rfl];rfl
  ·simp only[gt,GH,yz,de];rw[show a+((0:Nat):Int)=a by omega];exact bk.some _
 |p::r,acc,a,e,ak,c,aq,d=>by
  rw[gt,tu,mn,eu,bT]at aq;simp only[gt,ef,cd]at d ak ⊢;obtain⟨q,m⟩:=BT (e p (AB)) aq.1 c ae (o:=o);have k:aS T (st a o) [125]=false:=k5 (t:=G T a) rfl ae _ rfl;have h:=Hy r (acc++[p.aN]) (a+((aL (dw p)).length:Int)+1) (λx j=>e x (uv _ j)) (by simp only[ef,cd,de];omega) ae aq.2.2 ae (o:=o);refine bk.step (g:=λn=>gg T n (acc++[p.aN]) (st (a+((aL (dw p)).length:Int)+1) o)) (λn=> ?_) ?_
  ·have i:(acc.length==8)=false:=by
    have:acc.length≠8:=ae;simpa using this
   rw[gg,k,i,hi,q];simp only[aH];rw[gn aq.2.1 rfl ae ae];rfl
  ·rw[tu]at h;rw[HI,show a+(((aL (dw p)).length+((gt r).length+1):Nat):Int)=a+((aL (dw p)).length:Int)+1+((gt r).length:Int) by omega];exact h
def ix:List bq->List Tok
 |[]=>[]
 |p::r=>⟨4,[44],0,0⟩::(aL (dw p)++ix r)
def fe:List bq->List Tok
 |[]=>[]
 |p::r=>aL (dw p)++ix r
def NU:∀l:List bq,aL (jy l)=ix l
 |[]=>rfl
 |p::r=>by rw[jy,gD,gE,dE,NU r,ix]
def abw:∀l:List bq,aL (hk l)=fe l
 |[]=>rfl
 |p::r=>by rw[hk,dE,NU r,fe]
def Lx{a:Int}{p:bq}{m:List Tok}(aq:bT T a (aL (dw p)++m)):(G T a).kind=1:=by
 rw[eu,dw,Dx,bT]at aq;rw[aq.1.1]
def Ll{o:Int}:∀(r:List bq) (p:bq) (acc:List bq) (a:Int),(∀x∈p::r,fd x)->acc.length+r.length+1<=6->0<=a->bT T a (aL (dw p)++(ix r++[⟨4,[41],0,0⟩]))->a+((aL (dw p)).length:Int)+((ix r).length:Int)+1<=20000000->bk (λn=>eV T n acc (st a o)) (acc++p.aN::r.map bq.aN,st (a+((aL (dw p)).length:Int)+((ix r).length:Int)) o)
 |r,p,acc,a,h,ak,m,aq,s=>by
  have w:=Lx aq;have c:=(eu _ _ _).1 aq;have q:=(BT (h p (AB)) c.1 m ae (o:=o)).1;have j:aS T (st a o) [41]=false:=k5 (t:=G T a) rfl ae _ rfl;have e:(acc.length==6)=false:=by
   have:acc.length≠6:=ae;simpa using this
  cases r with
  |nil=>
   have t2:=c.2;rw[ix,zA,bT]at t2;have k:=eH (o:=o) (x:=[41]) t2.1 rfl rfl;simp only[ix,de,GH];rw[show a+((aL (dw p)).length:Int)+((0:Nat):Int)=a+((aL (dw p)).length:Int) by omega];refine bk.step (g:=λn=>eV T n (acc++[p.aN]) (st (a+((aL (dw p)).length:Int)) o)) (λn=> ?_) (bk.step (g:=λ_=>I (acc++[p.aN],st (a+((aL (dw p)).length:Int)) o)) (λn=> ?_) (bk.some _))
   ·rw[eV,j,e,hi,q];simp only[aH];rw[k];rfl
   ·rw[eV,k,IJ,hi,aH]
  |cons d r=>
   have t2:=c.2;rw[ix,mn,tu,bT]at t2;simp only[ix,cd,ef]at s ak ⊢;have y:=Lx t2.2;have l:hz T (st (a+((aL (dw p)).length:Int)) o)=st (a+((aL (dw p)).length:Int)+1) o:=by
    unfold hz;rw[gn t2.1 rfl ae ae,k5 (x:=[41]) (t:=G T (a+((aL (dw p)).length:Int)+1)) rfl ae rfl];rfl
   have i:=Ll r d (acc++[p.aN]) (a+((aL (dw p)).length:Int)+1) (λx v=>h x (uv _ v)) (by simp only[ef,cd,de];omega) ae t2.2 ae (o:=o);refine bk.step (g:=λn=>eV T n (acc++[p.aN]) (st (a+((aL (dw p)).length:Int)+1) o)) (λn=> ?_) ?_
   ·rw[eV,j,e,hi,q];simp only[aH];rw[fE (x:=[41]) t2.1 aC,l];rfl
   ·rw[tu]at i;rw[HI,show a+((aL (dw p)).length:Int)+(((aL (dw d)).length+(ix r).length+1:Nat):Int)=a+((aL (dw p)).length:Int)+1+((aL (dw d)).length:Int)+((ix r).length:Int) by omega];exact i
def Uf{o:Int}{l:List bq}{a:Int}(e:∀p∈l,fd p)(ak:l.length<=6)(c:0<=a)(aq:bT T a (fe l++[⟨4,[41],0,0⟩]))(d:a+((fe l).length:Int)+1<=20000000):bk (λn=>eV T n [] (st a o)) (l.map bq.aN,st (a+((fe l).length:Int)) o):=by
 cases l with
 |nil=>
  rw[fe,zA,bT]at aq;refine bk.step (g:=λ_=>I ([],st a o)) (λn=> ?_) ?_
  ·rw[eV,eH (x:=[41]) aq.1 rfl rfl];rfl
  ·simp only[fe,GH,de];rw[show a+((0:Nat):Int)=a by omega];exact bk.some _
 |cons p r=>
  rw[fe,tu]at aq;simp only[fe,ef,cd]at d ak ⊢;have:=Ll r p [] a e (by simp only[de];omega) c aq ae (o:=o);rw[HI,show a+(((aL (dw p)).length+(ix r).length:Nat):Int)=a+((aL (dw p)).length:Int)+((ix r).length:Int) by omega];exact this
def abx(r:dB):aL (o0 r)=⟨3,sE,0,0⟩::⟨1,r.name,0,0⟩::⟨4,[123],0,0⟩::(gt r.fields++[⟨4,[125],0,0⟩]):=by
 rw[o0,kK,gE,zb,gE,gD,uW,dE,NT];rfl
def abu(p:bq):aL (oX p)=⟨3,sD,0,0⟩::(aL (dw p)++[⟨4,[59],0,0⟩]):=by
 rw[oX,kK,gE,dE];rfl
def il(f:Fn):List Tok:=bif f.has then⟨4,[58],0,0⟩::aL (cR f.cm f.rd)else[]
def abt(f:Fn):aL (oW f)=⟨3,n9,0,0⟩::⟨1,f.name,0,0⟩::⟨4,[40],0,0⟩::(fe f.params++⟨4,[41],0,0⟩::(il f++aL (dC [] (bN 1 f.body)))):=by
 rw[oW,kK,gE,zb,gD,dE,abw,gD,dE,dE,uW,p9,yz]
 congr 5
 unfold il;cases f.has<;>rfl
def UR{a o:Int}{r:dB}(c:lL r)(aq:bT T (a+1) (⟨1,r.name,0,0⟩::⟨4,[123],0,0⟩::(gt r.fields++[⟨4,[125],0,0⟩])))(d:0<=a)(e:a+4+((gt r.fields).length:Int)<=20000000):bk (λn=>hI T n (st (a+1) o)) (r.aN,st (a+4+((gt r.fields).length:Int)) o):=by
 simp only[bT]at aq;obtain⟨t1,t2,t3⟩:=aq;have F:=Hy r.fields [] (a+1+1+1) c.f (by simpa using c.l) ae t3 ae (o:=o);have t4:=((eu _ _ _).1 t3).2;rw[bT]at t4;refine bk.eq (g:=λn=>(gg T n [] (st (a+1+1+1) o)).bind λp=>I (⟨r.name,p.1,0⟩,bg T [125] p.2)) (λn=> ?_) (F.bind ?_)
 ·unfold hI;rw[m_ t1 ae ae];simp only
  rw[gn t2 rfl ae ae,show G T (st (a+1) o).at_=_ from t1]
 ·simp only[zA];rw[gn t4.1 rfl ae ae,show a+4+((gt r.fields).length:Int)=a+1+1+1+((gt r.fields).length:Int)+1 by omega];exact bk.some _
def RZ(m:g_ T){a:Int}{f:Fn}(h:mT f)(aq:bT T (a+1) (⟨1,f.name,0,0⟩::⟨4,[40],0,0⟩::(fe f.params++⟨4,[41],0,0⟩::(il f++aL (dC [] (bN 1 f.body))))))(w:0<=a)(e:a+4+((fe f.params).length:Int)+((il f).length:Int)+((aL (dC [] (bN 1 f.body))).length:Int)<=20000000):bk (λn=>hB T n (st (a+1) 0)) (f.aN,st (a+4+((fe f.params).length:Int)+((il f).length:Int)+((aL (dC [] (bN 1 f.body))).length:Int)) 0):=by
 obtain⟨d,y,k⟩:=h.b;simp only[bT,eu]at aq;obtain⟨t1,t2,t3,t4,t5,t6⟩:=aq;have A:=Uf (a:=a+1+1+1) h.p h.l ae ((eu _ _ _).2 ⟨t3,t4,trivial⟩) ae (o:=0);have hJ:=t6;rw[zd,bT]at hJ;have V:eW T (st (a+1+1+1+((fe f.params).length:Int)+1) 0)=((f.has,f.cm,f.rd),st (a+1+1+1+((fe f.params).length:Int)+1+((il f).length:Int)) 0):=by
  unfold eW;rcases h.r with⟨c,j⟩|⟨c,j,q⟩
  ·have i:il f=⟨4,[58],0,0⟩::aL (cR f.cm f.rd):=by unfold il;rw[c];rfl
   rw[i]at t5 e ⊢;rw[bT]at t5;simp only[cd]at e ⊢;rw[eH (x:=[58]) t5.1 rfl rfl,aK,fi ae ae,v7 j t5.2 ae ae,c];rw[show a+1+1+1+((fe f.params).length:Int)+1+(((aL (cR f.cm f.rd)).length+1:Nat):Int)=a+1+1+1+((fe f.params).length:Int)+1+1+((aL (cR f.cm f.rd)).length:Int) by omega]
  ·have i:il f=[]:=by unfold il;rw[c];rfl
   rw[i]at t6 hJ e ⊢;simp only[de]at t6 hJ e ⊢;have v:G T (a+1+1+1+((fe f.params).length:Int)+1)=⟨4,[123],0,0⟩:=by
    have:=hJ.1;rw[show a+1+1+1+((fe f.params).length:Int)+1+((0:Nat):Int)=a+1+1+1+((fe f.params).length:Int)+1 by omega]at this;exact this
   rw[fE (x:=[58]) v aC,aH,c,j,q];rw[show a+1+1+1+((fe f.params).length:Int)+1+((0:Nat):Int)=a+1+1+1+((fe f.params).length:Int)+1 by omega]
 have B:=vk (T:=T) (d:=d) (o:=0) ae ae k (λs au=>R9 m (k s au)) ae t6 ae;refine bk.eq (g:=λn=>(eV T n [] (st (a+1+1+1) 0)).bind λp=>(dU T n (eW T (bg T [41] p.2)).2).bind λb=>I (⟨f.name,p.1,(eW T (bg T [41] p.2)).1.1,(eW T (bg T [41] p.2)).1.2.1,(eW T (bg T [41] p.2)).1.2.2,b.1,0⟩,b.2)) (λn=> ?_) (A.bind ?_)
 ·unfold hB;rw[m_ t1 ae ae];simp only
  rw[gn t2 rfl ae ae,show G T (st (a+1) 0).at_=_ from t1]
 ·simp only
  rw[gn t4 rfl ae ae,V];simp only
  rw[show a+4+((fe f.params).length:Int)+((il f).length:Int)+((aL (dC [] (bN 1 f.body))).length:Int)=a+1+1+1+((fe f.params).length:Int)+1+((il f).length:Int)+((aL (dC [] (bN 1 f.body))).length:Int) by omega];exact B.bind (bk.some _)
def Ee:∀(l:List dO) (g:bw),g.bJ.length<=(g.fU l).bJ.length/\g.globals.length<=(g.fU l).globals.length/\g.funcs.length<=(g.fU l).funcs.length
 |[],g=>⟨aV _,aV _,aV _⟩
 |i::l,g=>by
  have a:=Ee l (g.add i);rw[bw.fU];cases i<;>simp only[bw.add,ef,cd,de]at a ⊢ <;>omega
def BB{α:Type}{l:List α}{n:Nat}(h:l.length+1<=n):(l.length==n)=false:=by
 have:l.length≠n:=ae;simpa using this
def LF(z:g_ T):∀(l:List dO) (g:bw) (a:Int),(∀i∈l,qj i)->(g.fU l).bJ.length<=12->(g.fU l).globals.length<=8->(g.fU l).funcs.length<=16->0<=a->bT T a (aL (bZ l))->(G T (a+((aL (bZ l)).length:Int))).kind=0->a+((aL (bZ l)).length:Int)<=20000000->∃K,∀N n,K<=N->K<=n->ek T N n g.aN (st a 0)=I ((g.fU l).aN,st (a+((aL (bZ l)).length:Int)) 0)
 |[],g,a,_,_,_,_,h,_,e,_=>by
  simp only[bZ,p9,de]at e ⊢;rw[show a+((0:Nat):Int)=a by omega]at e ⊢;refine⟨1,λN n _ y=> ?_⟩;obtain⟨m,rfl⟩:∃m,n=m+1:=⟨n-1,ae⟩;rw[ek,show(G T (st a 0).at_).kind=0 from e];rfl
 |i::l,g,a,B,aQ,c2,c3,h,aq,e,c=>by
  have w:=B i (AB);have E:∀j∈l,qj j:=λj C=>B j (uv _ C)
  rw[bZ,dE]at aq e c ⊢;rw[eu]at aq;simp only[ef]at e c ⊢;rw[show a+(((aL (gS i)).length+(aL (bZ l)).length:Nat):Int)=a+((aL (gS i)).length:Int)+((aL (bZ l)).length:Int) by omega]at e c ⊢;rw[bw.fU]at aQ c2 c3 ⊢;obtain⟨bf,bo,b3⟩:=Ee l (g.add i);obtain⟨K,d⟩:=LF z l (g.add i) (a+((aL (gS i)).length:Int)) E aQ c2 c3 ae aq.2 e c;generalize ((g.add i).fU l)=F at*;generalize (aL (bZ l)).length=L at*;cases i with
  |r x=>
   have t1:=aq.1;rw[show gS (.r x)=o0 x from rfl,abx]at t1 d c ⊢;rw[bT]at t1;simp only[cd,ef,de]at d c ⊢;simp only[bw.add,ef,cd,de]at bf;obtain⟨v,V⟩:=UR w t1.2 h ae (o:=0);refine⟨max K v+1,λN n A y=> ?_⟩;obtain⟨m,rfl⟩:∃m,n=m+1:=⟨n-1,ae⟩;have k:isRec T (st a 0)=true:=eH t1.1 rfl rfl;have p:hV T (st a 0)=false:=f_ t1.1 aC;have s:isFun T (st a 0)=false:=f_ t1.1 aC;rw[ek,show G T (st a 0).at_=_ from t1.1,k,p,s,show(g.aN.bJ.length==12)=X from BB (by simp only[bw.aN,DE];omega),fi h ae,show hI T N (st (a+1) 0)=_ from V N ae]
   have:=d N m ae ae;rw[show(g.add (.r x)).aN={g.aN with bJ:=g.aN.bJ++[x.aN]}from by simp[bw.add,bw.aN],show a+(((gt x.fields).length+(0+1)+1+1+1:Nat):Int)=a+4+((gt x.fields).length:Int) by omega]at this;rw[show a+(((gt x.fields).length+(0+1)+1+1+1:Nat):Int)=a+4+((gt x.fields).length:Int) by omega,<-this];rfl
  |g x=>
   have t1:=aq.1;rw[show gS (.g x)=oX x from rfl,abu]at t1 d c ⊢;rw[bT,eu,bT]at t1;simp only[cd,ef,de]at d c ⊢;simp only[bw.add,ef,cd,de]at bo;have q:=(BT w t1.2.1 ae ae (o:=0)).1;refine⟨K+1,λN n A y=> ?_⟩;obtain⟨m,rfl⟩:∃m,n=m+1:=⟨n-1,ae⟩;have k:isRec T (st a 0)=false:=f_ t1.1 aC;have p:hV T (st a 0)=true:=eH t1.1 rfl rfl;have s:isFun T (st a 0)=false:=f_ t1.1 aC;rw[ek,show G T (st a 0).at_=_ from t1.1,k,p,s,show(g.aN.globals.length==8)=X from BB (by simp only[bw.aN,DE];omega),fi h ae,q];simp only
   rw[gn t1.2.2.1 rfl ae ae];have:=d N m ae ae;rw[show(g.add (.g x)).aN={g.aN with globals:=g.aN.globals++[x.aN]}from by simp[bw.add,bw.aN],show a+(((aL (dw x)).length+(0+1)+1:Nat):Int)=a+1+((aL (dw x)).length:Int)+1 by omega]at this;rw[show a+(((aL (dw x)).length+(0+1)+1:Nat):Int)=a+1+((aL (dw x)).length:Int)+1 by omega,<-this];rfl
  |f x=>
   have t1:=aq.1;rw[show gS (.f x)=oW x from rfl,abt]at t1 d c ⊢;rw[bT]at t1;simp only[cd,ef]at d c ⊢;simp only[bw.add,ef,cd,de]at b3;obtain⟨v,V⟩:=RZ z w t1.2 h ae;refine⟨max K v+1,λN n A y=> ?_⟩;obtain⟨m,rfl⟩:∃m,n=m+1:=⟨n-1,ae⟩;have k:isRec T (st a 0)=false:=f_ t1.1 aC;have p:hV T (st a 0)=false:=f_ t1.1 aC;have s:isFun T (st a 0)=true:=eH t1.1 rfl rfl;rw[ek,show G T (st a 0).at_=_ from t1.1,k,p,s,show(g.aN.funcs.length==16)=X from BB (by simp only[bw.aN,DE];omega),fi h ae,show hB T N (st (a+1) 0)=_ from V N ae]
   have:=d N m ae ae;rw[show(g.add (.f x)).aN={g.aN with funcs:=g.aN.funcs++[x.aN]}from by simp[bw.add,bw.aN],show a+(((fe x.params).length+((il x).length+(aL (dC [] (bN 1 x.body))).length+1)+1+1+1:Nat):Int)=a+4+((fe x.params).length:Int)+((il x).length:Int)+((aL (dC [] (bN 1 x.body))).length:Int) by omega]at this;rw[show a+(((fe x.params).length+((il x).length+(aL (dC [] (bN 1 x.body))).length+1)+1+1+1:Nat):Int)=a+4+((fe x.params).length:Int)+((il x).length:Int)+((aL (dC [] (bN 1 x.body))).length:Int) by omega,<-this];rfl
